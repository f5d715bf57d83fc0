/- Functions of the program, as what they compute. -/
import Derived.Test.YtjfhdhplmibnfaaF11b
namespace Go.Proofs.Ytjfhdhplmibnfaa
open Go Go.AM
set_option linter.unusedVariables false
set_option maxRecDepth 100000

/- cmp.isNaN[int] -/
def E101 : Env := envG 6 [2] [] []
def A101 : List AP := [.c (.int .i64)]
def R101 : List RSh := [.c (.bool)]
def T101 : STree := (.ret (.c (.bool (.cmp .neq (.var 0) (.var 0)))) [.dead])
theorem eq101 : evFn Try.prog E101 Try.f101 (argsAt A101 0) 1 = T101 := by kernel_rfl
noncomputable def P101 : List (FuncId × Fun) := []
noncomputable def S101 : Fun := ⟨A101, R101, fun vs => T101.run Try.prog P101 A101 R101 (fun _ _ => none) (envL vs)⟩
theorem ok101 : S101.Ok Try.prog 101 := fun_ok (Φ := P101) (S := S101) mixed plain_ok Try.func101 (by kernel_rfl) (by kernel_rfl) (by kernel_rfl) eq101 trivial (fun _ => by kernel_rfl)
noncomputable def g101 (x0 : Int) : Option (Bool) := S101.g [.i x0]
theorem g101_eq (x0 : Int) : g101 x0 =
    (some ((cop .neq x0 x0))) := by kernel_rfl

/- cmp.Compare[int] -/
def E99 : Env := envG 20 [4] [] []
def A99 : List AP := [.c (.int .i64), .c (.int .i64)]
def R99 : List RSh := [.c (.int .i64)]
def T99 : STree := (.call 101 [(.c (.int .i64 (.var 0)))] (.c (.bool (.var 2))) [.dead] 2 [.bool]
 (.call 101 [(.c (.int .i64 (.var 1)))] (.c (.bool (.var 3))) [.dead] 3 [.bool]
 (.branch (.var 2)
 (.branch (.var 3)
  (.ret (.c (.int .i64 (.lit 0))) [.dead, .dead])
  (.ret (.c (.int .i64 (.lit (-1)))) [.dead, .dead]))
 (.branch (.var 3)
  (.ret (.c (.int .i64 (.lit 1))) [.dead, .dead])
  (.branch (.cmp .lss (.var 0) (.var 1))
   (.ret (.c (.int .i64 (.lit (-1)))) [.dead, .dead])
   (.branch (.cmp .gtr (.var 0) (.var 1))
    (.ret (.c (.int .i64 (.lit 1))) [.dead, .dead])
    (.ret (.c (.int .i64 (.lit 0))) [.dead, .dead])))))))
theorem eq99 : evFn Try.prog E99 Try.f99 (argsAt A99 0) 2 = T99 := by kernel_rfl
noncomputable def P99 : List (FuncId × Fun) := [(101, S101)]
noncomputable def S99 : Fun := ⟨A99, R99, fun vs => T99.run Try.prog P99 A99 R99 (fun _ _ => none) (envL vs)⟩
theorem ok99 : S99.Ok Try.prog 99 := fun_ok (Φ := P99) (S := S99) mixed plain_ok Try.func99 (by kernel_rfl) (by kernel_rfl) (by kernel_rfl) eq99 (And.intro ok101 trivial) (fun _ => by kernel_rfl)
noncomputable def g99 (x0 : Int) (x1 : Int) : Option (Int) := S99.g [.i x0, .i x1]
theorem g99_eq (x0 : Int) (x1 : Int) : g99 x0 x1 =
    ((g101 x0).bind fun (r2 : Bool) =>
    (g101 x1).bind fun (r3 : Bool) =>
    if r2 = true then
      if r3 = true then
        some (0)
      else
        some ((-1))
    else
      if r3 = true then
        some (1)
      else
        if (cop .lss x0 x1) = true then
          some ((-1))
        else
          if (cop .gtr x0 x1) = true then
            some (1)
          else
            some (0)) := by kernel_rfl

/- cmp.Or[int] -/
def E98 : Env := envG 18 [2] [(3, [(3, .c (.int .i64)), (6, .c (.slice 1)), (7, .c (.int .i64)), (8, .c (.int .i64))])] []
def A98 : List AP := [.c (.slice 1)]
def R98 : List RSh := [.c (.int .i64)]
def T98L0 : STree := (.branch (.cmp .lss (.var 3) (.var 2))
 (.elem (.var 1) (.var 3) [.int .i64] 4
  (.branch (.cmp .neq (.var 4) (.var 0))
  (.ret (.c (.int .i64 (.var 4))) [.dead])
  (.again 0 [(.i (.var 0)), (.l (.var 1)), (.i (.var 2)), (.i (.bin .add .i64 (.var 3) (.lit 1)))])))
 (.ret (.c (.int .i64 (.var 0))) [.dead]))
def T98 : STree := (.loop 0 [(.i (.lit 0)), (.l (.var 0)), (.i (.len (.var 0))), (.i (.lit 0))] 0 T98L0)
theorem eq98 : evFn Try.prog E98 Try.f98 (argsAt A98 0) 1 = T98 := by kernel_rfl
noncomputable def P98 : List (FuncId × Fun) := []
noncomputable def S98 : Fun := ⟨A98, R98, fun vs => T98.run Try.prog P98 A98 R98 (fun _ _ => none) (envL vs)⟩
theorem ok98 : S98.Ok Try.prog 98 := fun_ok (Φ := P98) (S := S98) mixed plain_ok Try.func98 (by kernel_rfl) (by kernel_rfl) (by kernel_rfl) eq98 trivial (fun _ => by kernel_rfl)
noncomputable def g98 (x0 : List (List AV)) : Option (Int) := S98.g [.l x0]
noncomputable def g98L0 (k : Nat) (x0 : Int) (x1 : List (List AV)) (x2 : Int) (x3 : Int) : Option (Int) := iterL (fun rec vs => STree.run Try.prog P98 A98 R98 T98L0 (updR (fun _ _ => none) 0 rec) (bind zeroE 0 vs)) k [.i x0, .l x1, .i x2, .i x3]
theorem g98L0_eq (k : Nat) (x0 : Int) (x1 : List (List AV)) (x2 : Int) (x3 : Int) : g98L0 (k + 1) x0 x1 x2 x3 =
    (if (cop .lss x3 x2) = true then
      elemK x1 x3 [.int .i64] fun (r4 : Int) =>
      if (cop .neq r4 x0) = true then
        some (r4)
      else
        g98L0 k x0 x1 x2 (iop .add .i64 x3 1)
    else
      some (x0)) := by kernel_rfl
theorem g98_eq (x0 : List (List AV)) : g98 x0 =
    (g98L0 FUEL 0 x0 (List.length x0 : Int) 0) := by kernel_rfl

/- multikernel/node.Compare -/
def E82 : Env := envG 22 [4] [] []
def A82 : List AP := [.agg [.int .i64, .int .i64, .int .i64], .agg [.int .i64, .int .i64, .int .i64]]
def R82 : List RSh := [.c (.int .i64)]
def T82 : STree := (.call 99 [(.c (.int .i64 (.var 0))), (.c (.int .i64 (.var 3)))] (.c (.int .i64 (.var 6))) [.dead, .dead] 6 [.int .i64]
 (.call 99 [(.c (.int .i64 (.var 1))), (.c (.int .i64 (.var 4)))] (.c (.int .i64 (.var 7))) [.dead, .dead] 7 [.int .i64]
 (.call 99 [(.c (.int .i64 (.var 2))), (.c (.int .i64 (.var 5)))] (.c (.int .i64 (.var 8))) [.dead, .dead] 8 [.int .i64]
 (.call 98 [(.own 3 (.snoc (.snoc (.snoc .nil (.cons (.int .i64 (.var 6)) .nil)) (.cons (.int .i64 (.var 7)) .nil)) (.cons (.int .i64 (.var 8)) .nil)))] (.c (.int .i64 (.var 9))) [.dead] 9 [.int .i64]
 (.ret (.c (.int .i64 (.var 9))) [.dead, .dead])))))
theorem eq82 : evFn Try.prog E82 Try.f82 (argsAt A82 0) 6 = T82 := by kernel_rfl
noncomputable def P82 : List (FuncId × Fun) := [(99, S99), (98, S98)]
noncomputable def S82 : Fun := ⟨A82, R82, fun vs => T82.run Try.prog P82 A82 R82 (fun _ _ => none) (envL vs)⟩
theorem ok82 : S82.Ok Try.prog 82 := fun_ok (Φ := P82) (S := S82) mixed plain_ok Try.func82 (by kernel_rfl) (by kernel_rfl) (by kernel_rfl) eq82 (And.intro ok99 (And.intro ok98 trivial)) (fun _ => by kernel_rfl)
noncomputable def g82 (x0 : Int) (x1 : Int) (x2 : Int) (x3 : Int) (x4 : Int) (x5 : Int) : Option (Int) := S82.g [.i x0, .i x1, .i x2, .i x3, .i x4, .i x5]
theorem g82_eq (x0 : Int) (x1 : Int) (x2 : Int) (x3 : Int) (x4 : Int) (x5 : Int) : g82 x0 x1 x2 x3 x4 x5 =
    ((g99 x0 x3).bind fun (r6 : Int) =>
    (g99 x1 x4).bind fun (r7 : Int) =>
    (g99 x2 x5).bind fun (r8 : Int) =>
    (g98 (((([] : List (List AV)) ++ [[AV.val (.int .i64 r6)]]) ++ [[AV.val (.int .i64 r7)]]) ++ [[AV.val (.int .i64 r8)]])).bind fun (r9 : Int) =>
    some (r9)) := by kernel_rfl

/- multikernel/node.Less -/
def E55 : Env := envG 9 [4] [] []
def A55 : List AP := [.agg [.int .i64, .int .i64, .int .i64], .agg [.int .i64, .int .i64, .int .i64]]
def R55 : List RSh := [.c (.bool)]
def T55 : STree := (.call 82 [(.agg [(.int .i64 (.var 0)), (.int .i64 (.var 1)), (.int .i64 (.var 2))]), (.agg [(.int .i64 (.var 3)), (.int .i64 (.var 4)), (.int .i64 (.var 5))])] (.c (.int .i64 (.var 6))) [.dead, .dead] 6 [.int .i64]
 (.ret (.c (.bool (.cmp .lss (.var 6) (.lit 0)))) [.dead, .dead]))
theorem eq55 : evFn Try.prog E55 Try.f55 (argsAt A55 0) 6 = T55 := by kernel_rfl
noncomputable def P55 : List (FuncId × Fun) := [(82, S82)]
noncomputable def S55 : Fun := ⟨A55, R55, fun vs => T55.run Try.prog P55 A55 R55 (fun _ _ => none) (envL vs)⟩
theorem ok55 : S55.Ok Try.prog 55 := fun_ok (Φ := P55) (S := S55) mixed plain_ok Try.func55 (by kernel_rfl) (by kernel_rfl) (by kernel_rfl) eq55 (And.intro ok82 trivial) (fun _ => by kernel_rfl)
noncomputable def g55 (x0 : Int) (x1 : Int) (x2 : Int) (x3 : Int) (x4 : Int) (x5 : Int) : Option (Bool) := S55.g [.i x0, .i x1, .i x2, .i x3, .i x4, .i x5]
theorem g55_eq (x0 : Int) (x1 : Int) (x2 : Int) (x3 : Int) (x4 : Int) (x5 : Int) : g55 x0 x1 x2 x3 x4 x5 =
    ((g82 x0 x1 x2 x3 x4 x5).bind fun (r6 : Int) =>
    some ((cop .lss r6 0))) := by kernel_rfl

/- multikernel/multikernellaw12.page -/
def E48 : Env := envG 2 [0] [] []
def A48 : List AP := []
def R48 : List RSh := [.agg [.int .i64, .int .i64, .int .i64, .int .i64, .int .i64, .int .i64, .bool]]
def T48 : STree := (.ret (.agg [(.int .i64 (.lit 2)), (.int .i64 (.lit 4096)), (.int .i64 (.lit 12)), (.int .i64 (.lit 3)), (.int .i64 (.lit 0)), (.int .i64 (.lit 0)), (.bool (.lit false))]) [])
theorem eq48 : evFn Try.prog E48 Try.f48 (argsAt A48 0) 0 = T48 := by kernel_rfl
noncomputable def P48 : List (FuncId × Fun) := []
noncomputable def S48 : Fun := ⟨A48, R48, fun vs => T48.run Try.prog P48 A48 R48 (fun _ _ => none) (envL vs)⟩
theorem ok48 : S48.Ok Try.prog 48 := fun_ok (Φ := P48) (S := S48) mixed plain_ok Try.func48 (by kernel_rfl) (by kernel_rfl) (by kernel_rfl) eq48 trivial (fun _ => by kernel_rfl)
noncomputable def g48 : Option (Int × Int × Int × Int × Int × Int × Bool) := S48.g []
theorem g48_eq : g48 =
    (some (2, 4096, 12, 3, 0, 0, false)) := by kernel_rfl

/- multikernel/node.ValidId -/
def E58 : Env := envG 31 [2] [] []
def A58 : List AP := [.agg [.int .i64, .int .i64, .int .i64]]
def R58 : List RSh := [.c (.bool)]
def T58 : STree := (.branch (.cmp .geq (.var 0) (.lit 0))
 (.branch (.cmp .lss (.var 0) (.lit 32))
  (.branch (.cmp .geq (.var 1) (.lit 1))
   (.branch (.cmp .leq (.var 1) (.lit 1073741824))
    (.branch (.cmp .geq (.var 2) (.lit 0))
     (.ret (.c (.bool (.cmp .lss (.var 2) (.lit 8)))) [.dead])
     (.ret (.c (.bool (.lit false))) [.dead]))
    (.ret (.c (.bool (.lit false))) [.dead]))
   (.ret (.c (.bool (.lit false))) [.dead]))
  (.ret (.c (.bool (.lit false))) [.dead]))
 (.ret (.c (.bool (.lit false))) [.dead]))
theorem eq58 : evFn Try.prog E58 Try.f58 (argsAt A58 0) 3 = T58 := by kernel_rfl
noncomputable def P58 : List (FuncId × Fun) := []
noncomputable def S58 : Fun := ⟨A58, R58, fun vs => T58.run Try.prog P58 A58 R58 (fun _ _ => none) (envL vs)⟩
theorem ok58 : S58.Ok Try.prog 58 := fun_ok (Φ := P58) (S := S58) mixed plain_ok Try.func58 (by kernel_rfl) (by kernel_rfl) (by kernel_rfl) eq58 trivial (fun _ => by kernel_rfl)
noncomputable def g58 (x0 : Int) (x1 : Int) (x2 : Int) : Option (Bool) := S58.g [.i x0, .i x1, .i x2]
theorem g58_eq (x0 : Int) (x1 : Int) (x2 : Int) : g58 x0 x1 x2 =
    (if (cop .geq x0 0) = true then
      if (cop .lss x0 32) = true then
        if (cop .geq x1 1) = true then
          if (cop .leq x1 1073741824) = true then
            if (cop .geq x2 0) = true then
              some ((cop .lss x2 8))
            else
              some (false)
          else
            some (false)
        else
          some (false)
      else
        some (false)
    else
      some (false)) := by kernel_rfl

/- slices.Index[[]multikernel/api.Id,multikernel/api.Id] -/
def E96 : Env := envG 19 [4] [(2, [(0, .c (.slice 3)), (3, .box [.int .i64, .int .i64, .int .i64]), (7, .c (.int .i64)), (8, .c (.int .i64))])] []
def A96 : List AP := [.c (.slice 3), .agg [.int .i64, .int .i64, .int .i64]]
def R96 : List RSh := [.c (.int .i64)]
def T96L0 : STree := (.branch (.cmp .lss (.var 5) (.var 4))
 (.elem (.var 0) (.var 5) [.int .i64, .int .i64, .int .i64] 6
  (.branch (.and (.cmp .eql (.var 1) (.var 6)) (.and (.cmp .eql (.var 2) (.var 7)) (.and (.cmp .eql (.var 3) (.var 8)) (.lit true))))
  (.ret (.c (.int .i64 (.var 5))) [.dead, .dead])
  (.again 0 [(.l (.var 0)), (.i (.var 1)), (.i (.var 2)), (.i (.var 3)), (.i (.var 4)), (.i (.bin .add .i64 (.var 5) (.lit 1)))])))
 (.ret (.c (.int .i64 (.lit (-1)))) [.dead, .dead]))
def T96 : STree := (.loop 0 [(.l (.var 0)), (.i (.var 1)), (.i (.var 2)), (.i (.var 3)), (.i (.len (.var 0))), (.i (.lit 0))] 0 T96L0)
theorem eq96 : evFn Try.prog E96 Try.f96 (argsAt A96 0) 4 = T96 := by kernel_rfl
noncomputable def P96 : List (FuncId × Fun) := []
noncomputable def S96 : Fun := ⟨A96, R96, fun vs => T96.run Try.prog P96 A96 R96 (fun _ _ => none) (envL vs)⟩
theorem ok96 : S96.Ok Try.prog 96 := fun_ok (Φ := P96) (S := S96) mixed plain_ok Try.func96 (by kernel_rfl) (by kernel_rfl) (by kernel_rfl) eq96 trivial (fun _ => by kernel_rfl)
noncomputable def g96 (x0 : List (List AV)) (x1 : Int) (x2 : Int) (x3 : Int) : Option (Int) := S96.g [.l x0, .i x1, .i x2, .i x3]
noncomputable def g96L0 (k : Nat) (x0 : List (List AV)) (x1 : Int) (x2 : Int) (x3 : Int) (x4 : Int) (x5 : Int) : Option (Int) := iterL (fun rec vs => STree.run Try.prog P96 A96 R96 T96L0 (updR (fun _ _ => none) 0 rec) (bind zeroE 0 vs)) k [.l x0, .i x1, .i x2, .i x3, .i x4, .i x5]
theorem g96L0_eq (k : Nat) (x0 : List (List AV)) (x1 : Int) (x2 : Int) (x3 : Int) (x4 : Int) (x5 : Int) : g96L0 (k + 1) x0 x1 x2 x3 x4 x5 =
    (if (cop .lss x5 x4) = true then
      elemK x0 x5 [.int .i64, .int .i64, .int .i64] fun (r6 : Int × Int × Int) =>
      if ((cop .eql x1 r6.1) && ((cop .eql x2 r6.2.1) && ((cop .eql x3 r6.2.2) && true))) = true then
        some (x5)
      else
        g96L0 k x0 x1 x2 x3 x4 (iop .add .i64 x5 1)
    else
      some ((-1))) := by kernel_rfl
theorem g96_eq (x0 : List (List AV)) (x1 : Int) (x2 : Int) (x3 : Int) : g96 x0 x1 x2 x3 =
    (g96L0 FUEL x0 x1 x2 x3 (List.length x0 : Int) 0) := by kernel_rfl

/- slices.Contains[[]multikernel/api.Id,multikernel/api.Id] -/
def E80 : Env := envG 9 [4] [] []
def A80 : List AP := [.c (.slice 3), .agg [.int .i64, .int .i64, .int .i64]]
def R80 : List RSh := [.c (.bool)]
def T80 : STree := (.call 96 [(.c (.slice false 3 (.var 0))), (.agg [(.int .i64 (.var 1)), (.int .i64 (.var 2)), (.int .i64 (.var 3))])] (.c (.int .i64 (.var 4))) [.dead, .dead] 4 [.int .i64]
 (.ret (.c (.bool (.cmp .geq (.var 4) (.lit 0)))) [.dead, .dead]))
theorem eq80 : evFn Try.prog E80 Try.f80 (argsAt A80 0) 4 = T80 := by kernel_rfl
noncomputable def P80 : List (FuncId × Fun) := [(96, S96)]
noncomputable def S80 : Fun := ⟨A80, R80, fun vs => T80.run Try.prog P80 A80 R80 (fun _ _ => none) (envL vs)⟩
theorem ok80 : S80.Ok Try.prog 80 := fun_ok (Φ := P80) (S := S80) mixed plain_ok Try.func80 (by kernel_rfl) (by kernel_rfl) (by kernel_rfl) eq80 (And.intro ok96 trivial) (fun _ => by kernel_rfl)
noncomputable def g80 (x0 : List (List AV)) (x1 : Int) (x2 : Int) (x3 : Int) : Option (Bool) := S80.g [.l x0, .i x1, .i x2, .i x3]
theorem g80_eq (x0 : List (List AV)) (x1 : Int) (x2 : Int) (x3 : Int) : g80 x0 x1 x2 x3 =
    ((g96 x0 x1 x2 x3).bind fun (r4 : Int) =>
    some ((cop .geq r4 0))) := by kernel_rfl

/- multikernel/node.Valid -/
def E49 : Env := envG 47 [2] [(4, [(1, .box [.int .i64, .int .i64, .int .i64, .slice 3, .int .i64, .int .i64, .int .i64, .int .i64, .int .i64, .int .i64, .bool]), (22, .c (.slice 3)), (23, .c (.int .i64)), (24, .c (.int .i64))])] []
def A49 : List AP := [.agg [.int .i64, .int .i64, .int .i64, .slice 3, .int .i64, .int .i64, .int .i64, .int .i64, .int .i64, .int .i64, .bool]]
def R49 : List RSh := [.c (.bool)]
def T49L0 : STree := (.branch (.cmp .lss (.var 13) (.var 12))
 (.elem (.var 11) (.var 13) [.int .i64, .int .i64, .int .i64] 14
  (.call 58 [(.agg [(.int .i64 (.var 14)), (.int .i64 (.var 15)), (.int .i64 (.var 16))])] (.c (.bool (.var 17))) [.dead] 17 [.bool]
  (.branch (.not (.var 17))
  (.ret (.c (.bool (.lit false))) [.dead])
  (.branch (.and (.cmp .eql (.var 14) (.var 0)) (.and (.cmp .eql (.var 15) (.var 1)) (.and (.cmp .eql (.var 16) (.var 2)) (.lit true))))
   (.ret (.c (.bool (.lit false))) [.dead])
   (.req (.le (.lit 0) (.var 13))
    (.req (.le (.var 13) (.len (.var 3)))
    (.call 80 [(.c (.slice false 3 (.take (.var 3) (.var 13)))), (.agg [(.int .i64 (.var 14)), (.int .i64 (.var 15)), (.int .i64 (.var 16))])] (.c (.bool (.var 18))) [.dead, .dead] 18 [.bool]
    (.branch (.var 18)
    (.ret (.c (.bool (.lit false))) [.dead])
    (.again 0 [(.i (.var 0)), (.i (.var 1)), (.i (.var 2)), (.l (.var 3)), (.i (.var 4)), (.i (.var 5)), (.i (.var 6)), (.i (.var 7)), (.i (.var 8)), (.i (.var 9)), (.b (.var 10)), (.l (.var 11)), (.i (.var 12)), (.i (.bin .add .i64 (.var 13) (.lit 1)))])))))))))
 (.ret (.c (.bool (.lit true))) [.dead]))
def T49 : STree := (.call 58 [(.agg [(.int .i64 (.var 0)), (.int .i64 (.var 1)), (.int .i64 (.var 2))])] (.c (.bool (.var 11))) [.dead] 11 [.bool]
 (.branch (.not (.var 11))
 (.ret (.c (.bool (.lit false))) [.dead])
 (.call 28 [(.agg [(.int .i64 (.var 4)), (.int .i64 (.var 5)), (.int .i64 (.var 6)), (.int .i64 (.var 7)), (.int .i64 (.var 8)), (.int .i64 (.var 9)), (.bool (.var 10))])] (.c (.bool (.var 12))) [.dead] 12 [.bool]
  (.branch (.not (.var 12))
  (.ret (.c (.bool (.lit false))) [.dead])
  (.branch (.cmp .gtr (.len (.var 3)) (.lit 8))
   (.ret (.c (.bool (.lit false))) [.dead])
   (.loop 0 [(.i (.var 0)), (.i (.var 1)), (.i (.var 2)), (.l (.var 3)), (.i (.var 4)), (.i (.var 5)), (.i (.var 6)), (.i (.var 7)), (.i (.var 8)), (.i (.var 9)), (.b (.var 10)), (.l (.var 3)), (.i (.len (.var 3))), (.i (.lit 0))] 0 T49L0))))))
theorem eq49 : evFn Try.prog E49 Try.f49 (argsAt A49 0) 11 = T49 := by kernel_rfl
noncomputable def P49 : List (FuncId × Fun) := [(58, S58), (28, S28), (80, S80)]
noncomputable def S49 : Fun := ⟨A49, R49, fun vs => T49.run Try.prog P49 A49 R49 (fun _ _ => none) (envL vs)⟩
theorem ok49 : S49.Ok Try.prog 49 := fun_ok (Φ := P49) (S := S49) mixed plain_ok Try.func49 (by kernel_rfl) (by kernel_rfl) (by kernel_rfl) eq49 (And.intro ok58 (And.intro ok28 (And.intro ok80 trivial))) (fun _ => by kernel_rfl)
noncomputable def g49 (x0 : Int) (x1 : Int) (x2 : Int) (x3 : List (List AV)) (x4 : Int) (x5 : Int) (x6 : Int) (x7 : Int) (x8 : Int) (x9 : Int) (x10 : Bool) : Option (Bool) := S49.g [.i x0, .i x1, .i x2, .l x3, .i x4, .i x5, .i x6, .i x7, .i x8, .i x9, .b x10]
noncomputable def g49L0 (k : Nat) (x0 : Int) (x1 : Int) (x2 : Int) (x3 : List (List AV)) (x4 : Int) (x5 : Int) (x6 : Int) (x7 : Int) (x8 : Int) (x9 : Int) (x10 : Bool) (x11 : List (List AV)) (x12 : Int) (x13 : Int) : Option (Bool) := iterL (fun rec vs => STree.run Try.prog P49 A49 R49 T49L0 (updR (fun _ _ => none) 0 rec) (bind zeroE 0 vs)) k [.i x0, .i x1, .i x2, .l x3, .i x4, .i x5, .i x6, .i x7, .i x8, .i x9, .b x10, .l x11, .i x12, .i x13]
theorem g49L0_eq (k : Nat) (x0 : Int) (x1 : Int) (x2 : Int) (x3 : List (List AV)) (x4 : Int) (x5 : Int) (x6 : Int) (x7 : Int) (x8 : Int) (x9 : Int) (x10 : Bool) (x11 : List (List AV)) (x12 : Int) (x13 : Int) : g49L0 (k + 1) x0 x1 x2 x3 x4 x5 x6 x7 x8 x9 x10 x11 x12 x13 =
    (if (cop .lss x13 x12) = true then
      elemK x11 x13 [.int .i64, .int .i64, .int .i64] fun (r14 : Int × Int × Int) =>
      (g58 r14.1 r14.2.1 r14.2.2).bind fun (r17 : Bool) =>
      if (!r17) = true then
        some (false)
      else
        if ((cop .eql r14.1 x0) && ((cop .eql r14.2.1 x1) && ((cop .eql r14.2.2 x2) && true))) = true then
          some (false)
        else
          reqK ((0 : Int) ≤ x13) <|
          reqK ((x13 : Int) ≤ (List.length x3 : Int)) <|
          (g80 (List.take (Int.toNat x13) x3) r14.1 r14.2.1 r14.2.2).bind fun (r18 : Bool) =>
          if r18 = true then
            some (false)
          else
            g49L0 k x0 x1 x2 x3 x4 x5 x6 x7 x8 x9 x10 x11 x12 (iop .add .i64 x13 1)
    else
      some (true)) := by kernel_rfl
theorem g49_eq (x0 : Int) (x1 : Int) (x2 : Int) (x3 : List (List AV)) (x4 : Int) (x5 : Int) (x6 : Int) (x7 : Int) (x8 : Int) (x9 : Int) (x10 : Bool) : g49 x0 x1 x2 x3 x4 x5 x6 x7 x8 x9 x10 =
    ((g58 x0 x1 x2).bind fun (r11 : Bool) =>
    if (!r11) = true then
      some (false)
    else
      (g28 x4 x5 x6 x7 x8 x9 x10).bind fun (r12 : Bool) =>
      if (!r12) = true then
        some (false)
      else
        if (cop .gtr (List.length x3 : Int) 8) = true then
          some (false)
        else
          g49L0 FUEL x0 x1 x2 x3 x4 x5 x6 x7 x8 x9 x10 x3 (List.length x3 : Int) 0) := by kernel_rfl

/- multikernel/node.Below -/
def E50 : Env := envG 9 [4] [] []
def A50 : List AP := [.agg [.int .i64, .int .i64, .int .i64, .slice 3, .int .i64, .int .i64, .int .i64, .int .i64, .int .i64, .int .i64, .bool], .agg [.int .i64, .int .i64, .int .i64]]
def R50 : List RSh := [.c (.bool)]
def T50 : STree := (.call 80 [(.c (.slice false 3 (.var 3))), (.agg [(.int .i64 (.var 11)), (.int .i64 (.var 12)), (.int .i64 (.var 13))])] (.c (.bool (.var 14))) [.dead, .dead] 14 [.bool]
 (.ret (.c (.bool (.var 14))) [.dead, .dead]))
theorem eq50 : evFn Try.prog E50 Try.f50 (argsAt A50 0) 14 = T50 := by kernel_rfl
noncomputable def P50 : List (FuncId × Fun) := [(80, S80)]
noncomputable def S50 : Fun := ⟨A50, R50, fun vs => T50.run Try.prog P50 A50 R50 (fun _ _ => none) (envL vs)⟩
theorem ok50 : S50.Ok Try.prog 50 := fun_ok (Φ := P50) (S := S50) mixed plain_ok Try.func50 (by kernel_rfl) (by kernel_rfl) (by kernel_rfl) eq50 (And.intro ok80 trivial) (fun _ => by kernel_rfl)
noncomputable def g50 (x0 : Int) (x1 : Int) (x2 : Int) (x3 : List (List AV)) (x4 : Int) (x5 : Int) (x6 : Int) (x7 : Int) (x8 : Int) (x9 : Int) (x10 : Bool) (x11 : Int) (x12 : Int) (x13 : Int) : Option (Bool) := S50.g [.i x0, .i x1, .i x2, .l x3, .i x4, .i x5, .i x6, .i x7, .i x8, .i x9, .b x10, .i x11, .i x12, .i x13]
theorem g50_eq (x0 : Int) (x1 : Int) (x2 : Int) (x3 : List (List AV)) (x4 : Int) (x5 : Int) (x6 : Int) (x7 : Int) (x8 : Int) (x9 : Int) (x10 : Bool) (x11 : Int) (x12 : Int) (x13 : Int) : g50 x0 x1 x2 x3 x4 x5 x6 x7 x8 x9 x10 x11 x12 x13 =
    ((g80 x3 x11 x12 x13).bind fun (r14 : Bool) =>
    some (r14)) := by kernel_rfl

/- slices.Clone[[]multikernel/api.Id,multikernel/api.Id] -/
def E78 : Env := envG 8 [2] [] []
def A78 : List AP := [.c (.slice 3)]
def R78 : List RSh := [.c (.own 55)]
def T78 : STree := (.nilq (.var 0) 1
 (.branch (.var 1)
 (.ret (.own 55 .nil) [.dead])
 (.req (.room .nil (.var 0) 24)
  (.ret (.own 55 (.app .nil (.var 0))) [.dead]))))
theorem eq78 : evFn Try.prog E78 Try.f78 (argsAt A78 0) 1 = T78 := by kernel_rfl
noncomputable def P78 : List (FuncId × Fun) := []
noncomputable def S78 : Fun := ⟨A78, R78, fun vs => T78.run Try.prog P78 A78 R78 (fun _ _ => none) (envL vs)⟩
theorem ok78 : S78.Ok Try.prog 78 := fun_ok (Φ := P78) (S := S78) mixed plain_ok Try.func78 (by kernel_rfl) (by kernel_rfl) (by kernel_rfl) eq78 trivial (fun _ => by kernel_rfl)
noncomputable def g78 (x0 : List (List AV)) : Option (List (List AV)) := S78.g [.l x0]
theorem g78_eq (x0 : List (List AV)) : g78 x0 =
    (nilK (x0 = []) fun r1 =>
    if r1 = true then
      some (([] : List (List AV)))
    else
      reqK (roomP ([] : List (List AV)) x0 24) <|
      some ((([] : List (List AV)) ++ x0))) := by kernel_rfl

/- multikernel/node.Child -/
def E43 : Env := envG 48 [6, 7] [] []
def A43 : List AP := [.agg [.int .i64, .int .i64, .int .i64, .slice 3, .int .i64, .int .i64, .int .i64, .int .i64, .int .i64, .int .i64, .bool], .agg [.int .i64, .int .i64, .int .i64], .agg [.int .i64, .int .i64, .int .i64, .int .i64, .int .i64, .int .i64, .bool]]
def R43 : List RSh := [.agg [.int .i64, .int .i64, .int .i64, .slice 3, .int .i64, .int .i64, .int .i64, .int .i64, .int .i64, .int .i64, .bool], .c (.int .i64)]
def T43 : STree := (.call 49 [(.agg [(.int .i64 (.var 0)), (.int .i64 (.var 1)), (.int .i64 (.var 2)), (.slice false 3 (.var 3)), (.int .i64 (.var 4)), (.int .i64 (.var 5)), (.int .i64 (.var 6)), (.int .i64 (.var 7)), (.int .i64 (.var 8)), (.int .i64 (.var 9)), (.bool (.var 10))])] (.c (.bool (.var 21))) [.dead] 21 [.bool]
 (.branch (.not (.var 21))
 (.ret (.tuple [(.agg [(.int .i64 (.lit 0)), (.int .i64 (.lit 0)), (.int .i64 (.lit 0)), (.slice true 0 .nil), (.int .i64 (.lit 0)), (.int .i64 (.lit 0)), (.int .i64 (.lit 0)), (.int .i64 (.lit 0)), (.int .i64 (.lit 0)), (.int .i64 (.lit 0)), (.bool (.lit false))]), (.c (.int .i64 (.lit 1)))]) [.dead, .dead, .dead])
 (.call 58 [(.agg [(.int .i64 (.var 11)), (.int .i64 (.var 12)), (.int .i64 (.var 13))])] (.c (.bool (.var 22))) [.dead] 22 [.bool]
  (.branch (.not (.var 22))
  (.ret (.tuple [(.agg [(.int .i64 (.lit 0)), (.int .i64 (.lit 0)), (.int .i64 (.lit 0)), (.slice true 0 .nil), (.int .i64 (.lit 0)), (.int .i64 (.lit 0)), (.int .i64 (.lit 0)), (.int .i64 (.lit 0)), (.int .i64 (.lit 0)), (.int .i64 (.lit 0)), (.bool (.lit false))]), (.c (.int .i64 (.lit 1)))]) [.dead, .dead, .dead])
  (.call 28 [(.agg [(.int .i64 (.var 14)), (.int .i64 (.var 15)), (.int .i64 (.var 16)), (.int .i64 (.var 17)), (.int .i64 (.var 18)), (.int .i64 (.var 19)), (.bool (.var 20))])] (.c (.bool (.var 23))) [.dead] 23 [.bool]
   (.branch (.not (.var 23))
   (.ret (.tuple [(.agg [(.int .i64 (.lit 0)), (.int .i64 (.lit 0)), (.int .i64 (.lit 0)), (.slice true 0 .nil), (.int .i64 (.lit 0)), (.int .i64 (.lit 0)), (.int .i64 (.lit 0)), (.int .i64 (.lit 0)), (.int .i64 (.lit 0)), (.int .i64 (.lit 0)), (.bool (.lit false))]), (.c (.int .i64 (.lit 1)))]) [.dead, .dead, .dead])
   (.branch (.and (.cmp .eql (.var 11) (.var 0)) (.and (.cmp .eql (.var 12) (.var 1)) (.and (.cmp .eql (.var 13) (.var 2)) (.lit true))))
    (.ret (.tuple [(.agg [(.int .i64 (.lit 0)), (.int .i64 (.lit 0)), (.int .i64 (.lit 0)), (.slice true 0 .nil), (.int .i64 (.lit 0)), (.int .i64 (.lit 0)), (.int .i64 (.lit 0)), (.int .i64 (.lit 0)), (.int .i64 (.lit 0)), (.int .i64 (.lit 0)), (.bool (.lit false))]), (.c (.int .i64 (.lit 1)))]) [.dead, .dead, .dead])
    (.call 50 [(.agg [(.int .i64 (.var 0)), (.int .i64 (.var 1)), (.int .i64 (.var 2)), (.slice false 3 (.var 3)), (.int .i64 (.var 4)), (.int .i64 (.var 5)), (.int .i64 (.var 6)), (.int .i64 (.var 7)), (.int .i64 (.var 8)), (.int .i64 (.var 9)), (.bool (.var 10))]), (.agg [(.int .i64 (.var 11)), (.int .i64 (.var 12)), (.int .i64 (.var 13))])] (.c (.bool (.var 24))) [.dead, .dead] 24 [.bool]
     (.branch (.var 24)
     (.ret (.tuple [(.agg [(.int .i64 (.lit 0)), (.int .i64 (.lit 0)), (.int .i64 (.lit 0)), (.slice true 0 .nil), (.int .i64 (.lit 0)), (.int .i64 (.lit 0)), (.int .i64 (.lit 0)), (.int .i64 (.lit 0)), (.int .i64 (.lit 0)), (.int .i64 (.lit 0)), (.bool (.lit false))]), (.c (.int .i64 (.lit 1)))]) [.dead, .dead, .dead])
     (.branch (.cmp .geq (.len (.var 3)) (.lit 8))
      (.ret (.tuple [(.agg [(.int .i64 (.lit 0)), (.int .i64 (.lit 0)), (.int .i64 (.lit 0)), (.slice true 0 .nil), (.int .i64 (.lit 0)), (.int .i64 (.lit 0)), (.int .i64 (.lit 0)), (.int .i64 (.lit 0)), (.int .i64 (.lit 0)), (.int .i64 (.lit 0)), (.bool (.lit false))]), (.c (.int .i64 (.lit 9)))]) [.dead, .dead, .dead])
      (.call 78 [(.c (.slice false 3 (.var 3)))] (.own 55 (.var 25)) [.dead] 25 [.own 55]
       (.req (.room (.var 25) (.snoc .nil (.cons (.int .i64 (.var 0)) (.cons (.int .i64 (.var 1)) (.cons (.int .i64 (.var 2)) .nil)))) 24)
       (.ret (.tuple [(.agg [(.int .i64 (.var 11)), (.int .i64 (.var 12)), (.int .i64 (.var 13)), (.slice false 3 (.app (.var 25) (.snoc .nil (.cons (.int .i64 (.var 0)) (.cons (.int .i64 (.var 1)) (.cons (.int .i64 (.var 2)) .nil)))))), (.int .i64 (.var 14)), (.int .i64 (.var 15)), (.int .i64 (.var 16)), (.int .i64 (.var 17)), (.int .i64 (.var 18)), (.int .i64 (.var 19)), (.bool (.var 20))]), (.c (.int .i64 (.lit 0)))]) [.dead, .dead, .dead])))))))))))))
theorem eq43 : evFn Try.prog E43 Try.f43 (argsAt A43 0) 21 = T43 := by kernel_rfl
noncomputable def P43 : List (FuncId × Fun) := [(49, S49), (58, S58), (28, S28), (50, S50), (78, S78)]
noncomputable def S43 : Fun := ⟨A43, R43, fun vs => T43.run Try.prog P43 A43 R43 (fun _ _ => none) (envL vs)⟩
theorem ok43 : S43.Ok Try.prog 43 := fun_ok (Φ := P43) (S := S43) mixed plain_ok Try.func43 (by kernel_rfl) (by kernel_rfl) (by kernel_rfl) eq43 (And.intro ok49 (And.intro ok58 (And.intro ok28 (And.intro ok50 (And.intro ok78 trivial))))) (fun _ => by kernel_rfl)
noncomputable def g43 (x0 : Int) (x1 : Int) (x2 : Int) (x3 : List (List AV)) (x4 : Int) (x5 : Int) (x6 : Int) (x7 : Int) (x8 : Int) (x9 : Int) (x10 : Bool) (x11 : Int) (x12 : Int) (x13 : Int) (x14 : Int) (x15 : Int) (x16 : Int) (x17 : Int) (x18 : Int) (x19 : Int) (x20 : Bool) : Option (Int × Int × Int × List (List AV) × Int × Int × Int × Int × Int × Int × Bool × Int) := S43.g [.i x0, .i x1, .i x2, .l x3, .i x4, .i x5, .i x6, .i x7, .i x8, .i x9, .b x10, .i x11, .i x12, .i x13, .i x14, .i x15, .i x16, .i x17, .i x18, .i x19, .b x20]
theorem g43_eq (x0 : Int) (x1 : Int) (x2 : Int) (x3 : List (List AV)) (x4 : Int) (x5 : Int) (x6 : Int) (x7 : Int) (x8 : Int) (x9 : Int) (x10 : Bool) (x11 : Int) (x12 : Int) (x13 : Int) (x14 : Int) (x15 : Int) (x16 : Int) (x17 : Int) (x18 : Int) (x19 : Int) (x20 : Bool) : g43 x0 x1 x2 x3 x4 x5 x6 x7 x8 x9 x10 x11 x12 x13 x14 x15 x16 x17 x18 x19 x20 =
    ((g49 x0 x1 x2 x3 x4 x5 x6 x7 x8 x9 x10).bind fun (r21 : Bool) =>
    if (!r21) = true then
      some (0, 0, 0, ([] : List (List AV)), 0, 0, 0, 0, 0, 0, false, 1)
    else
      (g58 x11 x12 x13).bind fun (r22 : Bool) =>
      if (!r22) = true then
        some (0, 0, 0, ([] : List (List AV)), 0, 0, 0, 0, 0, 0, false, 1)
      else
        (g28 x14 x15 x16 x17 x18 x19 x20).bind fun (r23 : Bool) =>
        if (!r23) = true then
          some (0, 0, 0, ([] : List (List AV)), 0, 0, 0, 0, 0, 0, false, 1)
        else
          if ((cop .eql x11 x0) && ((cop .eql x12 x1) && ((cop .eql x13 x2) && true))) = true then
            some (0, 0, 0, ([] : List (List AV)), 0, 0, 0, 0, 0, 0, false, 1)
          else
            (g50 x0 x1 x2 x3 x4 x5 x6 x7 x8 x9 x10 x11 x12 x13).bind fun (r24 : Bool) =>
            if r24 = true then
              some (0, 0, 0, ([] : List (List AV)), 0, 0, 0, 0, 0, 0, false, 1)
            else
              if (cop .geq (List.length x3 : Int) 8) = true then
                some (0, 0, 0, ([] : List (List AV)), 0, 0, 0, 0, 0, 0, false, 9)
              else
                (g78 x3).bind fun (r25 : List (List AV)) =>
                reqK (roomP r25 (([] : List (List AV)) ++ [[AV.val (.int .i64 x0), AV.val (.int .i64 x1), AV.val (.int .i64 x2)]]) 24) <|
                some (x11, x12, x13, (r25 ++ (([] : List (List AV)) ++ [[AV.val (.int .i64 x0), AV.val (.int .i64 x1), AV.val (.int .i64 x2)]])), x14, x15, x16, x17, x18, x19, x20, 0)) := by kernel_rfl

/- multikernel/binenc.AppendUvarint -/
def E84 : Env := envG 50 [4] [(3, [(0, .c (.slice 1)), (1, .c (.int .u64)), (5, .c (.int .i64)), (6, .c (.int .u64))]), (9, [(0, .c (.slice 1)), (1, .c (.int .u64)), (5, .c (.int .i64)), (7, .mref 22), (8, .c (.int .i64)), (22, .row 5)])] []
def A84 : List AP := [.c (.slice 1), .c (.int .u64)]
def R84 : List RSh := [.c (.own 5)]
def T84L0 : STree := (.branch (.cmp .lss (.var 3) (.var 2))
 (.branch (.cmp .lss (.var 3) (.bin .sub .i64 (.var 2) (.lit 1)))
  (.req (.le (.lit 0) (.bin .add .i64 (.len (.var 0)) (.var 3)))
   (.req (.lt (.bin .add .i64 (.len (.var 0)) (.var 3)) (.var 4))
   (.req (.le (.lit 0) (.bin .add .i64 (.len (.var 0)) (.var 3)))
   (.req (.lt (.bin .add .i64 (.len (.var 0)) (.var 3)) (.var 4))
   (.req (.le (.lit 0) (.lit 7))
   (.again 0 [(.l (.var 0)), (.i (.bin .shr .u64 (.var 1) (.lit 7))), (.i (.var 2)), (.i (.bin .add .i64 (.var 3) (.lit 1))), (.i (.var 4)), (.i (.var 5)), (.l (.setAt (.var 6) (.bin .add .i64 (.len (.var 0)) (.var 3)) 0 (.cons (.int .u8 (.bin .or .u8 (.conv .u8 (.bin .and .u64 (.var 1) (.lit 127))) (.lit 128))) .nil)))]))))))
  (.req (.le (.lit 0) (.bin .add .i64 (.len (.var 0)) (.var 3)))
   (.req (.lt (.bin .add .i64 (.len (.var 0)) (.var 3)) (.var 4))
   (.req (.le (.lit 0) (.bin .add .i64 (.len (.var 0)) (.var 3)))
   (.req (.lt (.bin .add .i64 (.len (.var 0)) (.var 3)) (.var 4))
   (.req (.le (.lit 0) (.lit 7))
   (.again 0 [(.l (.var 0)), (.i (.bin .shr .u64 (.var 1) (.lit 7))), (.i (.var 2)), (.i (.bin .add .i64 (.var 3) (.lit 1))), (.i (.var 4)), (.i (.var 5)), (.l (.setAt (.var 6) (.bin .add .i64 (.len (.var 0)) (.var 3)) 0 (.cons (.int .u8 (.conv .u8 (.bin .and .u64 (.var 1) (.lit 127)))) .nil)))])))))))
 (.ret (.own 5 (.var 6)) [.dead, .dead]))
def T84L1 : STree := (.branch (.cmp .gtr (.var 3) (.lit 0))
 (.req (.le (.lit 0) (.lit 7))
  (.again 0 [(.l (.var 0)), (.i (.var 1)), (.i (.bin .add .i64 (.var 2) (.lit 1))), (.i (.bin .shr .u64 (.var 3) (.lit 7)))]))
 (.req (.make (.bin .add .i64 (.len (.var 0)) (.var 2)) 1)
  (.loop 0 [(.l (.var 0)), (.i (.var 1)), (.i (.var 2)), (.i (.lit 0)), (.i (.bin .add .i64 (.len (.var 0)) (.var 2))), (.i (.bin .add .i64 (.len (.var 0)) (.var 2))), (.l (.spl (.rep (.bin .add .i64 (.len (.var 0)) (.var 2)) (.cons (.int .u8 (.lit 0)) .nil)) (.var 0)))] 0 T84L0)))
def T84 : STree := (.req (.le (.lit 0) (.lit 7))
 (.loop 0 [(.l (.var 0)), (.i (.var 1)), (.i (.lit 1)), (.i (.bin .shr .u64 (.var 1) (.lit 7)))] 0 T84L1))
theorem eq84 : evFn Try.prog E84 Try.f84 (argsAt A84 0) 2 = T84 := by kernel_rfl
noncomputable def P84 : List (FuncId × Fun) := []
noncomputable def S84 : Fun := ⟨A84, R84, fun vs => T84.run Try.prog P84 A84 R84 (fun _ _ => none) (envL vs)⟩
theorem ok84 : S84.Ok Try.prog 84 := fun_ok (Φ := P84) (S := S84) mixed plain_ok Try.func84 (by kernel_rfl) (by kernel_rfl) (by kernel_rfl) eq84 trivial (fun _ => by kernel_rfl)
noncomputable def g84 (x0 : List (List AV)) (x1 : Int) : Option (List (List AV)) := S84.g [.l x0, .i x1]
noncomputable def g84L0 (k : Nat) (x0 : List (List AV)) (x1 : Int) (x2 : Int) (x3 : Int) (x4 : Int) (x5 : Int) (x6 : List (List AV)) : Option (List (List AV)) := iterL (fun rec vs => STree.run Try.prog P84 A84 R84 T84L0 (updR (fun _ _ => none) 0 rec) (bind zeroE 0 vs)) k [.l x0, .i x1, .i x2, .i x3, .i x4, .i x5, .l x6]
theorem g84L0_eq (k : Nat) (x0 : List (List AV)) (x1 : Int) (x2 : Int) (x3 : Int) (x4 : Int) (x5 : Int) (x6 : List (List AV)) : g84L0 (k + 1) x0 x1 x2 x3 x4 x5 x6 =
    (if (cop .lss x3 x2) = true then
      if (cop .lss x3 (iop .sub .i64 x2 1)) = true then
        reqK ((0 : Int) ≤ (iop .add .i64 (List.length x0 : Int) x3)) <|
        reqK (((iop .add .i64 (List.length x0 : Int) x3) : Int) < x4) <|
        reqK ((0 : Int) ≤ (iop .add .i64 (List.length x0 : Int) x3)) <|
        reqK (((iop .add .i64 (List.length x0 : Int) x3) : Int) < x4) <|
        reqK ((0 : Int) ≤ 7) <|
        g84L0 k x0 (iop .shr .u64 x1 7) x2 (iop .add .i64 x3 1) x4 x5 (setElem x6 (Int.toNat (iop .add .i64 (List.length x0 : Int) x3)) 0 [AV.val (.int .u8 (iop .or .u8 (IntKind.wrap .u8 (iop .and .u64 x1 127)) 128))])
      else
        reqK ((0 : Int) ≤ (iop .add .i64 (List.length x0 : Int) x3)) <|
        reqK (((iop .add .i64 (List.length x0 : Int) x3) : Int) < x4) <|
        reqK ((0 : Int) ≤ (iop .add .i64 (List.length x0 : Int) x3)) <|
        reqK (((iop .add .i64 (List.length x0 : Int) x3) : Int) < x4) <|
        reqK ((0 : Int) ≤ 7) <|
        g84L0 k x0 (iop .shr .u64 x1 7) x2 (iop .add .i64 x3 1) x4 x5 (setElem x6 (Int.toNat (iop .add .i64 (List.length x0 : Int) x3)) 0 [AV.val (.int .u8 (IntKind.wrap .u8 (iop .and .u64 x1 127)))])
    else
      some (x6)) := by kernel_rfl
noncomputable def g84L1 (k : Nat) (x0 : List (List AV)) (x1 : Int) (x2 : Int) (x3 : Int) : Option (List (List AV)) := iterL (fun rec vs => STree.run Try.prog P84 A84 R84 T84L1 (updR (fun _ _ => none) 0 rec) (bind zeroE 0 vs)) k [.l x0, .i x1, .i x2, .i x3]
theorem g84L1_eq (k : Nat) (x0 : List (List AV)) (x1 : Int) (x2 : Int) (x3 : Int) : g84L1 (k + 1) x0 x1 x2 x3 =
    (if (cop .gtr x3 0) = true then
      reqK ((0 : Int) ≤ 7) <|
      g84L1 k x0 x1 (iop .add .i64 x2 1) (iop .shr .u64 x3 7)
    else
      reqK (makeP (iop .add .i64 (List.length x0 : Int) x2) 1) <|
      g84L0 FUEL x0 x1 x2 0 (iop .add .i64 (List.length x0 : Int) x2) (iop .add .i64 (List.length x0 : Int) x2) (splL (List.replicate (Int.toNat (iop .add .i64 (List.length x0 : Int) x2)) [AV.val (.int .u8 0)]) x0)) := by kernel_rfl
theorem g84_eq (x0 : List (List AV)) (x1 : Int) : g84 x0 x1 =
    (reqK ((0 : Int) ≤ 7) <|
    g84L1 FUEL x0 x1 1 (iop .shr .u64 x1 7)) := by kernel_rfl

/- multikernel/node.AppendId -/
def E85 : Env := envG 25 [4] [(2, [(0, .c (.own 5)), (13, .c (.slice 1)), (14, .c (.int .i64)), (15, .c (.int .i64))])] []
def A85 : List AP := [.c (.own 5), .agg [.int .i64, .int .i64, .int .i64]]
def R85 : List RSh := [.c (.own 5)]
def T85L0 : STree := (.branch (.cmp .lss (.var 3) (.var 2))
 (.elem (.var 1) (.var 3) [.int .i64] 4
  (.call 84 [(.c (.slice false 1 (.var 0))), (.c (.int .u64 (.conv .u64 (.var 4))))] (.own 5 (.var 5)) [.dead, .dead] 5 [.own 5]
  (.again 0 [(.l (.var 5)), (.l (.var 1)), (.i (.var 2)), (.i (.bin .add .i64 (.var 3) (.lit 1)))])))
 (.ret (.own 5 (.var 0)) [.dead, .dead]))
def T85 : STree := (.loop 0 [(.l (.var 0)), (.l (.snoc (.snoc (.snoc .nil (.cons (.int .i64 (.var 1)) .nil)) (.cons (.int .i64 (.var 2)) .nil)) (.cons (.int .i64 (.var 3)) .nil))), (.i (.len (.snoc (.snoc (.snoc .nil (.cons (.int .i64 (.var 1)) .nil)) (.cons (.int .i64 (.var 2)) .nil)) (.cons (.int .i64 (.var 3)) .nil)))), (.i (.lit 0))] 0 T85L0)
theorem eq85 : evFn Try.prog E85 Try.f85 (argsAt A85 0) 4 = T85 := by kernel_rfl
noncomputable def P85 : List (FuncId × Fun) := [(84, S84)]
noncomputable def S85 : Fun := ⟨A85, R85, fun vs => T85.run Try.prog P85 A85 R85 (fun _ _ => none) (envL vs)⟩
theorem ok85 : S85.Ok Try.prog 85 := fun_ok (Φ := P85) (S := S85) mixed plain_ok Try.func85 (by kernel_rfl) (by kernel_rfl) (by kernel_rfl) eq85 (And.intro ok84 trivial) (fun _ => by kernel_rfl)
noncomputable def g85 (x0 : List (List AV)) (x1 : Int) (x2 : Int) (x3 : Int) : Option (List (List AV)) := S85.g [.l x0, .i x1, .i x2, .i x3]
noncomputable def g85L0 (k : Nat) (x0 : List (List AV)) (x1 : List (List AV)) (x2 : Int) (x3 : Int) : Option (List (List AV)) := iterL (fun rec vs => STree.run Try.prog P85 A85 R85 T85L0 (updR (fun _ _ => none) 0 rec) (bind zeroE 0 vs)) k [.l x0, .l x1, .i x2, .i x3]
theorem g85L0_eq (k : Nat) (x0 : List (List AV)) (x1 : List (List AV)) (x2 : Int) (x3 : Int) : g85L0 (k + 1) x0 x1 x2 x3 =
    (if (cop .lss x3 x2) = true then
      elemK x1 x3 [.int .i64] fun (r4 : Int) =>
      (g84 x0 (IntKind.wrap .u64 r4)).bind fun (r5 : List (List AV)) =>
      g85L0 k r5 x1 x2 (iop .add .i64 x3 1)
    else
      some (x0)) := by kernel_rfl
theorem g85_eq (x0 : List (List AV)) (x1 : Int) (x2 : Int) (x3 : Int) : g85 x0 x1 x2 x3 =
    (g85L0 FUEL x0 (((([] : List (List AV)) ++ [[AV.val (.int .i64 x1)]]) ++ [[AV.val (.int .i64 x2)]]) ++ [[AV.val (.int .i64 x3)]]) (List.length (((([] : List (List AV)) ++ [[AV.val (.int .i64 x1)]]) ++ [[AV.val (.int .i64 x2)]]) ++ [[AV.val (.int .i64 x3)]]) : Int) 0) := by kernel_rfl

/- multikernel/node.Encode -/
def E63 : Env := envG 40 [2, 3] [(5, [(1, .box [.int .i64, .int .i64, .int .i64, .slice 3, .int .i64, .int .i64, .int .i64, .int .i64, .int .i64, .int .i64, .bool]), (4, .c (.own 5)), (21, .c (.slice 3)), (22, .c (.int .i64)), (23, .c (.int .i64))])] []
def A63 : List AP := [.agg [.int .i64, .int .i64, .int .i64, .slice 3, .int .i64, .int .i64, .int .i64, .int .i64, .int .i64, .int .i64, .bool]]
def R63 : List RSh := [.c (.own 5), .c (.int .i64)]
def T63L0 : STree := (.branch (.cmp .lss (.var 14) (.var 13))
 (.elem (.var 12) (.var 14) [.int .i64, .int .i64, .int .i64] 15
  (.call 85 [(.own 5 (.var 11)), (.agg [(.int .i64 (.var 15)), (.int .i64 (.var 16)), (.int .i64 (.var 17))])] (.own 5 (.var 18)) [.dead, .dead] 18 [.own 5]
  (.again 0 [(.i (.var 0)), (.i (.var 1)), (.i (.var 2)), (.l (.var 3)), (.i (.var 4)), (.i (.var 5)), (.i (.var 6)), (.i (.var 7)), (.i (.var 8)), (.i (.var 9)), (.b (.var 10)), (.l (.var 18)), (.l (.var 12)), (.i (.var 13)), (.i (.bin .add .i64 (.var 14) (.lit 1)))])))
 (.call 38 [(.agg [(.int .i64 (.var 4)), (.int .i64 (.var 5)), (.int .i64 (.var 6)), (.int .i64 (.var 7)), (.int .i64 (.var 8)), (.int .i64 (.var 9)), (.bool (.var 10))])] (.tuple [(.own 5 (.var 15)), (.c (.int .i64 (.var 16)))]) [.dead] 15 [.own 5, .int .i64]
  (.req (.room (.var 11) (.var 15) 1)
  (.ret (.tuple [(.own 5 (.app (.var 11) (.var 15))), (.c (.int .i64 (.lit 0)))]) [.dead]))))
def T63 : STree := (.call 49 [(.agg [(.int .i64 (.var 0)), (.int .i64 (.var 1)), (.int .i64 (.var 2)), (.slice false 3 (.var 3)), (.int .i64 (.var 4)), (.int .i64 (.var 5)), (.int .i64 (.var 6)), (.int .i64 (.var 7)), (.int .i64 (.var 8)), (.int .i64 (.var 9)), (.bool (.var 10))])] (.c (.bool (.var 11))) [.dead] 11 [.bool]
 (.branch (.not (.var 11))
 (.ret (.tuple [(.own 5 .nil), (.c (.int .i64 (.lit 1)))]) [.dead])
 (.call 85 [(.c (.slice true 0 .nil)), (.agg [(.int .i64 (.var 0)), (.int .i64 (.var 1)), (.int .i64 (.var 2))])] (.own 5 (.var 12)) [.dead, .dead] 12 [.own 5]
  (.call 84 [(.own 5 (.var 12)), (.c (.int .u64 (.conv .u64 (.len (.var 3)))))] (.own 5 (.var 13)) [.dead, .dead] 13 [.own 5]
  (.loop 0 [(.i (.var 0)), (.i (.var 1)), (.i (.var 2)), (.l (.var 3)), (.i (.var 4)), (.i (.var 5)), (.i (.var 6)), (.i (.var 7)), (.i (.var 8)), (.i (.var 9)), (.b (.var 10)), (.l (.var 13)), (.l (.var 3)), (.i (.len (.var 3))), (.i (.lit 0))] 0 T63L0)))))
theorem eq63 : evFn Try.prog E63 Try.f63 (argsAt A63 0) 11 = T63 := by kernel_rfl
noncomputable def P63 : List (FuncId × Fun) := [(49, S49), (85, S85), (84, S84), (38, S38)]
noncomputable def S63 : Fun := ⟨A63, R63, fun vs => T63.run Try.prog P63 A63 R63 (fun _ _ => none) (envL vs)⟩
theorem ok63 : S63.Ok Try.prog 63 := fun_ok (Φ := P63) (S := S63) mixed plain_ok Try.func63 (by kernel_rfl) (by kernel_rfl) (by kernel_rfl) eq63 (And.intro ok49 (And.intro ok85 (And.intro ok84 (And.intro ok38 trivial)))) (fun _ => by kernel_rfl)
noncomputable def g63 (x0 : Int) (x1 : Int) (x2 : Int) (x3 : List (List AV)) (x4 : Int) (x5 : Int) (x6 : Int) (x7 : Int) (x8 : Int) (x9 : Int) (x10 : Bool) : Option (List (List AV) × Int) := S63.g [.i x0, .i x1, .i x2, .l x3, .i x4, .i x5, .i x6, .i x7, .i x8, .i x9, .b x10]
noncomputable def g63L0 (k : Nat) (x0 : Int) (x1 : Int) (x2 : Int) (x3 : List (List AV)) (x4 : Int) (x5 : Int) (x6 : Int) (x7 : Int) (x8 : Int) (x9 : Int) (x10 : Bool) (x11 : List (List AV)) (x12 : List (List AV)) (x13 : Int) (x14 : Int) : Option (List (List AV) × Int) := iterL (fun rec vs => STree.run Try.prog P63 A63 R63 T63L0 (updR (fun _ _ => none) 0 rec) (bind zeroE 0 vs)) k [.i x0, .i x1, .i x2, .l x3, .i x4, .i x5, .i x6, .i x7, .i x8, .i x9, .b x10, .l x11, .l x12, .i x13, .i x14]
theorem g63L0_eq (k : Nat) (x0 : Int) (x1 : Int) (x2 : Int) (x3 : List (List AV)) (x4 : Int) (x5 : Int) (x6 : Int) (x7 : Int) (x8 : Int) (x9 : Int) (x10 : Bool) (x11 : List (List AV)) (x12 : List (List AV)) (x13 : Int) (x14 : Int) : g63L0 (k + 1) x0 x1 x2 x3 x4 x5 x6 x7 x8 x9 x10 x11 x12 x13 x14 =
    (if (cop .lss x14 x13) = true then
      elemK x12 x14 [.int .i64, .int .i64, .int .i64] fun (r15 : Int × Int × Int) =>
      (g85 x11 r15.1 r15.2.1 r15.2.2).bind fun (r18 : List (List AV)) =>
      g63L0 k x0 x1 x2 x3 x4 x5 x6 x7 x8 x9 x10 r18 x12 x13 (iop .add .i64 x14 1)
    else
      (g38 x4 x5 x6 x7 x8 x9 x10).bind fun (r15 : List (List AV) × Int) =>
      reqK (roomP x11 r15.1 1) <|
      some ((x11 ++ r15.1), 0)) := by kernel_rfl
theorem g63_eq (x0 : Int) (x1 : Int) (x2 : Int) (x3 : List (List AV)) (x4 : Int) (x5 : Int) (x6 : Int) (x7 : Int) (x8 : Int) (x9 : Int) (x10 : Bool) : g63 x0 x1 x2 x3 x4 x5 x6 x7 x8 x9 x10 =
    ((g49 x0 x1 x2 x3 x4 x5 x6 x7 x8 x9 x10).bind fun (r11 : Bool) =>
    if (!r11) = true then
      some (([] : List (List AV)), 1)
    else
      (g85 ([] : List (List AV)) x0 x1 x2).bind fun (r12 : List (List AV)) =>
      (g84 r12 (IntKind.wrap .u64 (List.length x3 : Int))).bind fun (r13 : List (List AV)) =>
      g63L0 FUEL x0 x1 x2 x3 x4 x5 x6 x7 x8 x9 x10 r13 x3 (List.length x3 : Int) 0) := by kernel_rfl

/- multikernel/multikernellaw12.awake -/
def E42 : Env := envG 39 [0] [] []
def A42 : List AP := []
def R42 : List RSh := [.c (.bool)]
def T42 : STree := (.call 48 [] (.agg [(.int .i64 (.var 0)), (.int .i64 (.var 1)), (.int .i64 (.var 2)), (.int .i64 (.var 3)), (.int .i64 (.var 4)), (.int .i64 (.var 5)), (.bool (.var 6))]) [] 0 [.int .i64, .int .i64, .int .i64, .int .i64, .int .i64, .int .i64, .bool]
 (.call 48 [] (.agg [(.int .i64 (.var 7)), (.int .i64 (.var 8)), (.int .i64 (.var 9)), (.int .i64 (.var 10)), (.int .i64 (.var 11)), (.int .i64 (.var 12)), (.bool (.var 13))]) [] 7 [.int .i64, .int .i64, .int .i64, .int .i64, .int .i64, .int .i64, .bool]
 (.call 43 [(.agg [(.int .i64 (.lit 0)), (.int .i64 (.lit 1)), (.int .i64 (.lit 0)), (.slice true 0 .nil), (.int .i64 (.var 0)), (.int .i64 (.var 1)), (.int .i64 (.var 2)), (.int .i64 (.var 3)), (.int .i64 (.var 4)), (.int .i64 (.var 5)), (.bool (.var 6))]), (.agg [(.int .i64 (.lit 0)), (.int .i64 (.lit 2)), (.int .i64 (.lit 0))]), (.agg [(.int .i64 (.var 7)), (.int .i64 (.var 8)), (.int .i64 (.var 9)), (.int .i64 (.var 10)), (.int .i64 (.var 11)), (.int .i64 (.var 12)), (.bool (.var 13))])] (.tuple [(.agg [(.int .i64 (.var 14)), (.int .i64 (.var 15)), (.int .i64 (.var 16)), (.slice false 3 (.var 17)), (.int .i64 (.var 18)), (.int .i64 (.var 19)), (.int .i64 (.var 20)), (.int .i64 (.var 21)), (.int .i64 (.var 22)), (.int .i64 (.var 23)), (.bool (.var 24))]), (.c (.int .i64 (.var 25)))]) [.dead, .dead, .dead] 14 [.int .i64, .int .i64, .int .i64, .slice 3, .int .i64, .int .i64, .int .i64, .int .i64, .int .i64, .int .i64, .bool, .int .i64]
 (.call 63 [(.agg [(.int .i64 (.var 14)), (.int .i64 (.var 15)), (.int .i64 (.var 16)), (.slice false 3 (.var 17)), (.int .i64 (.var 18)), (.int .i64 (.var 19)), (.int .i64 (.var 20)), (.int .i64 (.var 21)), (.int .i64 (.var 22)), (.int .i64 (.var 23)), (.bool (.var 24))])] (.tuple [(.own 5 (.var 26)), (.c (.int .i64 (.var 27)))]) [.dead] 26 [.own 5, .int .i64]
 (.branch (.cmp .eql (.var 25) (.lit 0))
 (.branch (.cmp .eql (.var 27) (.lit 0))
  (.branch (.cmp .eql (.len (.var 26)) (.lit 17))
   (.call 49 [(.agg [(.int .i64 (.var 14)), (.int .i64 (.var 15)), (.int .i64 (.var 16)), (.slice false 3 (.var 17)), (.int .i64 (.var 18)), (.int .i64 (.var 19)), (.int .i64 (.var 20)), (.int .i64 (.var 21)), (.int .i64 (.var 22)), (.int .i64 (.var 23)), (.bool (.var 24))])] (.c (.bool (.var 28))) [.dead] 28 [.bool]
    (.branch (.var 28)
    (.call 50 [(.agg [(.int .i64 (.var 14)), (.int .i64 (.var 15)), (.int .i64 (.var 16)), (.slice false 3 (.var 17)), (.int .i64 (.var 18)), (.int .i64 (.var 19)), (.int .i64 (.var 20)), (.int .i64 (.var 21)), (.int .i64 (.var 22)), (.int .i64 (.var 23)), (.bool (.var 24))]), (.agg [(.int .i64 (.lit 0)), (.int .i64 (.lit 1)), (.int .i64 (.lit 0))])] (.c (.bool (.var 29))) [.dead, .dead] 29 [.bool]
     (.ret (.c (.bool (.var 29))) []))
    (.ret (.c (.bool (.lit false))) [])))
   (.ret (.c (.bool (.lit false))) []))
  (.ret (.c (.bool (.lit false))) []))
 (.ret (.c (.bool (.lit false))) []))))))
theorem eq42 : evFn Try.prog E42 Try.f42 (argsAt A42 0) 0 = T42 := by kernel_rfl
noncomputable def P42 : List (FuncId × Fun) := [(48, S48), (43, S43), (63, S63), (49, S49), (50, S50)]
noncomputable def S42 : Fun := ⟨A42, R42, fun vs => T42.run Try.prog P42 A42 R42 (fun _ _ => none) (envL vs)⟩
theorem ok42 : S42.Ok Try.prog 42 := fun_ok (Φ := P42) (S := S42) mixed plain_ok Try.func42 (by kernel_rfl) (by kernel_rfl) (by kernel_rfl) eq42 (And.intro ok48 (And.intro ok43 (And.intro ok63 (And.intro ok49 (And.intro ok50 trivial))))) (fun _ => by kernel_rfl)
noncomputable def g42 : Option (Bool) := S42.g []
theorem g42_eq : g42 =
    ((g48).bind fun (r0 : Int × Int × Int × Int × Int × Int × Bool) =>
    (g48).bind fun (r7 : Int × Int × Int × Int × Int × Int × Bool) =>
    (g43 0 1 0 ([] : List (List AV)) r0.1 r0.2.1 r0.2.2.1 r0.2.2.2.1 r0.2.2.2.2.1 r0.2.2.2.2.2.1 r0.2.2.2.2.2.2 0 2 0 r7.1 r7.2.1 r7.2.2.1 r7.2.2.2.1 r7.2.2.2.2.1 r7.2.2.2.2.2.1 r7.2.2.2.2.2.2).bind fun (r14 : Int × Int × Int × List (List AV) × Int × Int × Int × Int × Int × Int × Bool × Int) =>
    (g63 r14.1 r14.2.1 r14.2.2.1 r14.2.2.2.1 r14.2.2.2.2.1 r14.2.2.2.2.2.1 r14.2.2.2.2.2.2.1 r14.2.2.2.2.2.2.2.1 r14.2.2.2.2.2.2.2.2.1 r14.2.2.2.2.2.2.2.2.2.1 r14.2.2.2.2.2.2.2.2.2.2.1).bind fun (r26 : List (List AV) × Int) =>
    if (cop .eql r14.2.2.2.2.2.2.2.2.2.2.2 0) = true then
      if (cop .eql r26.2 0) = true then
        if (cop .eql (List.length r26.1 : Int) 17) = true then
          (g49 r14.1 r14.2.1 r14.2.2.1 r14.2.2.2.1 r14.2.2.2.2.1 r14.2.2.2.2.2.1 r14.2.2.2.2.2.2.1 r14.2.2.2.2.2.2.2.1 r14.2.2.2.2.2.2.2.2.1 r14.2.2.2.2.2.2.2.2.2.1 r14.2.2.2.2.2.2.2.2.2.2.1).bind fun (r28 : Bool) =>
          if r28 = true then
            (g50 r14.1 r14.2.1 r14.2.2.1 r14.2.2.2.1 r14.2.2.2.2.1 r14.2.2.2.2.2.1 r14.2.2.2.2.2.2.1 r14.2.2.2.2.2.2.2.1 r14.2.2.2.2.2.2.2.2.1 r14.2.2.2.2.2.2.2.2.2.1 r14.2.2.2.2.2.2.2.2.2.2.1 0 1 0).bind fun (r29 : Bool) =>
            some (r29)
          else
            some (false)
        else
          some (false)
      else
        some (false)
    else
      some (false)) := by kernel_rfl

/- multikernel/multikernellaw12.NodeOrder -/
def E16 : Env := envG 42 [6] [] []
def A16 : List AP := [.agg [.int .i64, .int .i64, .int .i64], .agg [.int .i64, .int .i64, .int .i64], .agg [.int .i64, .int .i64, .int .i64]]
def R16 : List RSh := [.c (.bool)]
def T16 : STree := (.call 55 [(.agg [(.int .i64 (.var 0)), (.int .i64 (.var 1)), (.int .i64 (.var 2))]), (.agg [(.int .i64 (.var 0)), (.int .i64 (.var 1)), (.int .i64 (.var 2))])] (.c (.bool (.var 9))) [.dead, .dead] 9 [.bool]
 (.branch (.var 9)
 (.ret (.c (.bool (.lit false))) [.dead, .dead, .dead])
 (.branch (.not (.and (.cmp .eql (.var 0) (.var 3)) (.and (.cmp .eql (.var 1) (.var 4)) (.and (.cmp .eql (.var 2) (.var 5)) (.lit true)))))
  (.call 55 [(.agg [(.int .i64 (.var 0)), (.int .i64 (.var 1)), (.int .i64 (.var 2))]), (.agg [(.int .i64 (.var 3)), (.int .i64 (.var 4)), (.int .i64 (.var 5))])] (.c (.bool (.var 10))) [.dead, .dead] 10 [.bool]
   (.call 55 [(.agg [(.int .i64 (.var 3)), (.int .i64 (.var 4)), (.int .i64 (.var 5))]), (.agg [(.int .i64 (.var 0)), (.int .i64 (.var 1)), (.int .i64 (.var 2))])] (.c (.bool (.var 11))) [.dead, .dead] 11 [.bool]
   (.branch (.beq (.var 10) (.var 11))
   (.ret (.c (.bool (.lit false))) [.dead, .dead, .dead])
   (.call 55 [(.agg [(.int .i64 (.var 0)), (.int .i64 (.var 1)), (.int .i64 (.var 2))]), (.agg [(.int .i64 (.var 3)), (.int .i64 (.var 4)), (.int .i64 (.var 5))])] (.c (.bool (.var 12))) [.dead, .dead] 12 [.bool]
    (.branch (.var 12)
    (.call 55 [(.agg [(.int .i64 (.var 3)), (.int .i64 (.var 4)), (.int .i64 (.var 5))]), (.agg [(.int .i64 (.var 6)), (.int .i64 (.var 7)), (.int .i64 (.var 8))])] (.c (.bool (.var 13))) [.dead, .dead] 13 [.bool]
     (.branch (.var 13)
     (.call 55 [(.agg [(.int .i64 (.var 0)), (.int .i64 (.var 1)), (.int .i64 (.var 2))]), (.agg [(.int .i64 (.var 6)), (.int .i64 (.var 7)), (.int .i64 (.var 8))])] (.c (.bool (.var 14))) [.dead, .dead] 14 [.bool]
      (.branch (.not (.not (.var 14)))
      (.call 42 [] (.c (.bool (.var 15))) [] 15 [.bool]
       (.ret (.c (.bool (.var 15))) [.dead, .dead, .dead]))
      (.ret (.c (.bool (.lit false))) [.dead, .dead, .dead])))
     (.call 42 [] (.c (.bool (.var 14))) [] 14 [.bool]
      (.ret (.c (.bool (.var 14))) [.dead, .dead, .dead]))))
    (.call 42 [] (.c (.bool (.var 13))) [] 13 [.bool]
     (.ret (.c (.bool (.var 13))) [.dead, .dead, .dead])))))))
  (.call 55 [(.agg [(.int .i64 (.var 0)), (.int .i64 (.var 1)), (.int .i64 (.var 2))]), (.agg [(.int .i64 (.var 3)), (.int .i64 (.var 4)), (.int .i64 (.var 5))])] (.c (.bool (.var 10))) [.dead, .dead] 10 [.bool]
   (.branch (.var 10)
   (.call 55 [(.agg [(.int .i64 (.var 3)), (.int .i64 (.var 4)), (.int .i64 (.var 5))]), (.agg [(.int .i64 (.var 6)), (.int .i64 (.var 7)), (.int .i64 (.var 8))])] (.c (.bool (.var 11))) [.dead, .dead] 11 [.bool]
    (.branch (.var 11)
    (.call 55 [(.agg [(.int .i64 (.var 0)), (.int .i64 (.var 1)), (.int .i64 (.var 2))]), (.agg [(.int .i64 (.var 6)), (.int .i64 (.var 7)), (.int .i64 (.var 8))])] (.c (.bool (.var 12))) [.dead, .dead] 12 [.bool]
     (.branch (.not (.not (.var 12)))
     (.call 42 [] (.c (.bool (.var 13))) [] 13 [.bool]
      (.ret (.c (.bool (.var 13))) [.dead, .dead, .dead]))
     (.ret (.c (.bool (.lit false))) [.dead, .dead, .dead])))
    (.call 42 [] (.c (.bool (.var 12))) [] 12 [.bool]
     (.ret (.c (.bool (.var 12))) [.dead, .dead, .dead]))))
   (.call 42 [] (.c (.bool (.var 11))) [] 11 [.bool]
    (.ret (.c (.bool (.var 11))) [.dead, .dead, .dead])))))))
theorem eq16 : evFn Try.prog E16 Try.f16 (argsAt A16 0) 9 = T16 := by kernel_rfl
noncomputable def P16 : List (FuncId × Fun) := [(55, S55), (42, S42)]
noncomputable def S16 : Fun := ⟨A16, R16, fun vs => T16.run Try.prog P16 A16 R16 (fun _ _ => none) (envL vs)⟩
theorem ok16 : S16.Ok Try.prog 16 := fun_ok (Φ := P16) (S := S16) mixed plain_ok Try.func16 (by kernel_rfl) (by kernel_rfl) (by kernel_rfl) eq16 (And.intro ok55 (And.intro ok42 trivial)) (fun _ => by kernel_rfl)
noncomputable def g16 (x0 : Int) (x1 : Int) (x2 : Int) (x3 : Int) (x4 : Int) (x5 : Int) (x6 : Int) (x7 : Int) (x8 : Int) : Option (Bool) := S16.g [.i x0, .i x1, .i x2, .i x3, .i x4, .i x5, .i x6, .i x7, .i x8]
theorem g16_eq (x0 : Int) (x1 : Int) (x2 : Int) (x3 : Int) (x4 : Int) (x5 : Int) (x6 : Int) (x7 : Int) (x8 : Int) : g16 x0 x1 x2 x3 x4 x5 x6 x7 x8 =
    ((g55 x0 x1 x2 x0 x1 x2).bind fun (r9 : Bool) =>
    if r9 = true then
      some (false)
    else
      if (!((cop .eql x0 x3) && ((cop .eql x1 x4) && ((cop .eql x2 x5) && true)))) = true then
        (g55 x0 x1 x2 x3 x4 x5).bind fun (r10 : Bool) =>
        (g55 x3 x4 x5 x0 x1 x2).bind fun (r11 : Bool) =>
        if (r10 == r11) = true then
          some (false)
        else
          (g55 x0 x1 x2 x3 x4 x5).bind fun (r12 : Bool) =>
          if r12 = true then
            (g55 x3 x4 x5 x6 x7 x8).bind fun (r13 : Bool) =>
            if r13 = true then
              (g55 x0 x1 x2 x6 x7 x8).bind fun (r14 : Bool) =>
              if (!(!r14)) = true then
                (g42).bind fun (r15 : Bool) =>
                some (r15)
              else
                some (false)
            else
              (g42).bind fun (r14 : Bool) =>
              some (r14)
          else
            (g42).bind fun (r13 : Bool) =>
            some (r13)
      else
        (g55 x0 x1 x2 x3 x4 x5).bind fun (r10 : Bool) =>
        if r10 = true then
          (g55 x3 x4 x5 x6 x7 x8).bind fun (r11 : Bool) =>
          if r11 = true then
            (g55 x0 x1 x2 x6 x7 x8).bind fun (r12 : Bool) =>
            if (!(!r12)) = true then
              (g42).bind fun (r13 : Bool) =>
              some (r13)
            else
              some (false)
          else
            (g42).bind fun (r12 : Bool) =>
            some (r12)
        else
          (g42).bind fun (r11 : Bool) =>
          some (r11)) := by kernel_rfl

/- multikernel/multikernelref10.CopyIds -/
def E56 : Env := envG 5 [2] [] []
def A56 : List AP := [.c (.slice 3)]
def R56 : List RSh := [.c (.own 55)]
def T56 : STree := (.req (.room .nil (.var 0) 24)
 (.ret (.own 55 (.var 0)) [.dead]))
theorem eq56 : evFn Try.prog E56 Try.f56 (argsAt A56 0) 1 = T56 := by kernel_rfl
noncomputable def P56 : List (FuncId × Fun) := []
noncomputable def S56 : Fun := ⟨A56, R56, fun vs => T56.run Try.prog P56 A56 R56 (fun _ _ => none) (envL vs)⟩
theorem ok56 : S56.Ok Try.prog 56 := fun_ok (Φ := P56) (S := S56) mixed plain_ok Try.func56 (by kernel_rfl) (by kernel_rfl) (by kernel_rfl) eq56 trivial (fun _ => by kernel_rfl)
noncomputable def g56 (x0 : List (List AV)) : Option (List (List AV)) := S56.g [.l x0]
theorem g56_eq (x0 : List (List AV)) : g56 x0 =
    (reqK (roomP ([] : List (List AV)) x0 24) <|
    some (x0)) := by kernel_rfl

/- multikernel/multikernelref10.CopyNode -/
def E44 : Env := envG 8 [2] [] []
def A44 : List AP := [.agg [.int .i64, .int .i64, .int .i64, .slice 3, .int .i64, .int .i64, .int .i64, .int .i64, .int .i64, .int .i64, .bool]]
def R44 : List RSh := [.agg [.int .i64, .int .i64, .int .i64, .slice 3, .int .i64, .int .i64, .int .i64, .int .i64, .int .i64, .int .i64, .bool]]
def T44 : STree := (.call 56 [(.c (.slice false 3 (.var 3)))] (.own 55 (.var 11)) [.dead] 11 [.own 55]
 (.ret (.agg [(.int .i64 (.var 0)), (.int .i64 (.var 1)), (.int .i64 (.var 2)), (.slice false 3 (.var 11)), (.int .i64 (.var 4)), (.int .i64 (.var 5)), (.int .i64 (.var 6)), (.int .i64 (.var 7)), (.int .i64 (.var 8)), (.int .i64 (.var 9)), (.bool (.var 10))]) [.dead]))
theorem eq44 : evFn Try.prog E44 Try.f44 (argsAt A44 0) 11 = T44 := by kernel_rfl
noncomputable def P44 : List (FuncId × Fun) := [(56, S56)]
noncomputable def S44 : Fun := ⟨A44, R44, fun vs => T44.run Try.prog P44 A44 R44 (fun _ _ => none) (envL vs)⟩
theorem ok44 : S44.Ok Try.prog 44 := fun_ok (Φ := P44) (S := S44) mixed plain_ok Try.func44 (by kernel_rfl) (by kernel_rfl) (by kernel_rfl) eq44 (And.intro ok56 trivial) (fun _ => by kernel_rfl)
noncomputable def g44 (x0 : Int) (x1 : Int) (x2 : Int) (x3 : List (List AV)) (x4 : Int) (x5 : Int) (x6 : Int) (x7 : Int) (x8 : Int) (x9 : Int) (x10 : Bool) : Option (Int × Int × Int × List (List AV) × Int × Int × Int × Int × Int × Int × Bool) := S44.g [.i x0, .i x1, .i x2, .l x3, .i x4, .i x5, .i x6, .i x7, .i x8, .i x9, .b x10]
theorem g44_eq (x0 : Int) (x1 : Int) (x2 : Int) (x3 : List (List AV)) (x4 : Int) (x5 : Int) (x6 : Int) (x7 : Int) (x8 : Int) (x9 : Int) (x10 : Bool) : g44 x0 x1 x2 x3 x4 x5 x6 x7 x8 x9 x10 =
    ((g56 x3).bind fun (r11 : List (List AV)) =>
    some (x0, x1, x2, r11, x4, x5, x6, x7, x8, x9, x10)) := by kernel_rfl

/- multikernel/multikernelref10.ValidId -/
def E59 : Env := envG 31 [2] [] []
def A59 : List AP := [.agg [.int .i64, .int .i64, .int .i64]]
def R59 : List RSh := [.c (.bool)]
def T59 : STree := (.branch (.cmp .geq (.var 0) (.lit 0))
 (.branch (.cmp .lss (.var 0) (.lit 32))
  (.branch (.cmp .geq (.var 1) (.lit 1))
   (.branch (.cmp .leq (.var 1) (.lit 1073741824))
    (.branch (.cmp .geq (.var 2) (.lit 0))
     (.ret (.c (.bool (.cmp .lss (.var 2) (.lit 8)))) [.dead])
     (.ret (.c (.bool (.lit false))) [.dead]))
    (.ret (.c (.bool (.lit false))) [.dead]))
   (.ret (.c (.bool (.lit false))) [.dead]))
  (.ret (.c (.bool (.lit false))) [.dead]))
 (.ret (.c (.bool (.lit false))) [.dead]))
theorem eq59 : evFn Try.prog E59 Try.f59 (argsAt A59 0) 3 = T59 := by kernel_rfl
noncomputable def P59 : List (FuncId × Fun) := []
noncomputable def S59 : Fun := ⟨A59, R59, fun vs => T59.run Try.prog P59 A59 R59 (fun _ _ => none) (envL vs)⟩
theorem ok59 : S59.Ok Try.prog 59 := fun_ok (Φ := P59) (S := S59) mixed plain_ok Try.func59 (by kernel_rfl) (by kernel_rfl) (by kernel_rfl) eq59 trivial (fun _ => by kernel_rfl)
noncomputable def g59 (x0 : Int) (x1 : Int) (x2 : Int) : Option (Bool) := S59.g [.i x0, .i x1, .i x2]
theorem g59_eq (x0 : Int) (x1 : Int) (x2 : Int) : g59 x0 x1 x2 =
    (if (cop .geq x0 0) = true then
      if (cop .lss x0 32) = true then
        if (cop .geq x1 1) = true then
          if (cop .leq x1 1073741824) = true then
            if (cop .geq x2 0) = true then
              some ((cop .lss x2 8))
            else
              some (false)
          else
            some (false)
        else
          some (false)
      else
        some (false)
    else
      some (false)) := by kernel_rfl

/- multikernel/multikernelref10.HasId -/
def E54 : Env := envG 18 [4] [(2, [(0, .c (.slice 3)), (3, .box [.int .i64, .int .i64, .int .i64]), (5, .c (.int .i64))])] []
def A54 : List AP := [.c (.slice 3), .agg [.int .i64, .int .i64, .int .i64]]
def R54 : List RSh := [.c (.bool)]
def T54L0 : STree := (.branch (.cmp .lss (.var 4) (.len (.var 0)))
 (.elem (.var 0) (.var 4) [.int .i64, .int .i64, .int .i64] 5
  (.branch (.and (.cmp .eql (.var 5) (.var 1)) (.and (.cmp .eql (.var 6) (.var 2)) (.and (.cmp .eql (.var 7) (.var 3)) (.lit true))))
  (.ret (.c (.bool (.lit true))) [.dead, .dead])
  (.again 0 [(.l (.var 0)), (.i (.var 1)), (.i (.var 2)), (.i (.var 3)), (.i (.bin .add .i64 (.var 4) (.lit 1)))])))
 (.ret (.c (.bool (.lit false))) [.dead, .dead]))
def T54 : STree := (.loop 0 [(.l (.var 0)), (.i (.var 1)), (.i (.var 2)), (.i (.var 3)), (.i (.lit 0))] 0 T54L0)
theorem eq54 : evFn Try.prog E54 Try.f54 (argsAt A54 0) 4 = T54 := by kernel_rfl
noncomputable def P54 : List (FuncId × Fun) := []
noncomputable def S54 : Fun := ⟨A54, R54, fun vs => T54.run Try.prog P54 A54 R54 (fun _ _ => none) (envL vs)⟩
theorem ok54 : S54.Ok Try.prog 54 := fun_ok (Φ := P54) (S := S54) mixed plain_ok Try.func54 (by kernel_rfl) (by kernel_rfl) (by kernel_rfl) eq54 trivial (fun _ => by kernel_rfl)
noncomputable def g54 (x0 : List (List AV)) (x1 : Int) (x2 : Int) (x3 : Int) : Option (Bool) := S54.g [.l x0, .i x1, .i x2, .i x3]
noncomputable def g54L0 (k : Nat) (x0 : List (List AV)) (x1 : Int) (x2 : Int) (x3 : Int) (x4 : Int) : Option (Bool) := iterL (fun rec vs => STree.run Try.prog P54 A54 R54 T54L0 (updR (fun _ _ => none) 0 rec) (bind zeroE 0 vs)) k [.l x0, .i x1, .i x2, .i x3, .i x4]
theorem g54L0_eq (k : Nat) (x0 : List (List AV)) (x1 : Int) (x2 : Int) (x3 : Int) (x4 : Int) : g54L0 (k + 1) x0 x1 x2 x3 x4 =
    (if (cop .lss x4 (List.length x0 : Int)) = true then
      elemK x0 x4 [.int .i64, .int .i64, .int .i64] fun (r5 : Int × Int × Int) =>
      if ((cop .eql r5.1 x1) && ((cop .eql r5.2.1 x2) && ((cop .eql r5.2.2 x3) && true))) = true then
        some (true)
      else
        g54L0 k x0 x1 x2 x3 (iop .add .i64 x4 1)
    else
      some (false)) := by kernel_rfl
theorem g54_eq (x0 : List (List AV)) (x1 : Int) (x2 : Int) (x3 : Int) : g54 x0 x1 x2 x3 =
    (g54L0 FUEL x0 x1 x2 x3 0) := by kernel_rfl

/- multikernel/multikernelref10.ValidNode -/
def E60 : Env := envG 53 [2] [(4, [(1, .box [.int .i64, .int .i64, .int .i64, .slice 3, .int .i64, .int .i64, .int .i64, .int .i64, .int .i64, .int .i64, .bool]), (3, .c (.int .i64))])] []
def A60 : List AP := [.agg [.int .i64, .int .i64, .int .i64, .slice 3, .int .i64, .int .i64, .int .i64, .int .i64, .int .i64, .int .i64, .bool]]
def R60 : List RSh := [.c (.bool)]
def T60L0 : STree := (.branch (.cmp .lss (.var 11) (.len (.var 3)))
 (.elem (.var 3) (.var 11) [.int .i64, .int .i64, .int .i64] 12
  (.call 59 [(.agg [(.int .i64 (.var 12)), (.int .i64 (.var 13)), (.int .i64 (.var 14))])] (.c (.bool (.var 15))) [.dead] 15 [.bool]
  (.branch (.not (.var 15))
  (.ret (.c (.bool (.lit false))) [.dead])
  (.req (.le (.lit 0) (.var 11))
   (.req (.le (.var 11) (.len (.var 3)))
   (.elem (.var 3) (.var 11) [.int .i64, .int .i64, .int .i64] 16
   (.call 54 [(.c (.slice false 3 (.take (.var 3) (.var 11)))), (.agg [(.int .i64 (.var 16)), (.int .i64 (.var 17)), (.int .i64 (.var 18))])] (.c (.bool (.var 19))) [.dead, .dead] 19 [.bool]
   (.branch (.var 19)
   (.ret (.c (.bool (.lit false))) [.dead])
   (.again 0 [(.i (.var 0)), (.i (.var 1)), (.i (.var 2)), (.l (.var 3)), (.i (.var 4)), (.i (.var 5)), (.i (.var 6)), (.i (.var 7)), (.i (.var 8)), (.i (.var 9)), (.b (.var 10)), (.i (.bin .add .i64 (.var 11) (.lit 1)))])))))))))
 (.ret (.c (.bool (.lit true))) [.dead]))
def T60 : STree := (.call 59 [(.agg [(.int .i64 (.var 0)), (.int .i64 (.var 1)), (.int .i64 (.var 2))])] (.c (.bool (.var 11))) [.dead] 11 [.bool]
 (.branch (.not (.var 11))
 (.ret (.c (.bool (.lit false))) [.dead])
 (.call 33 [(.agg [(.int .i64 (.var 4)), (.int .i64 (.var 5)), (.int .i64 (.var 6)), (.int .i64 (.var 7)), (.int .i64 (.var 8)), (.int .i64 (.var 9)), (.bool (.var 10))])] (.c (.bool (.var 12))) [.dead] 12 [.bool]
  (.branch (.not (.var 12))
  (.ret (.c (.bool (.lit false))) [.dead])
  (.branch (.cmp .gtr (.len (.var 3)) (.lit 8))
   (.ret (.c (.bool (.lit false))) [.dead])
   (.call 54 [(.c (.slice false 3 (.var 3))), (.agg [(.int .i64 (.var 0)), (.int .i64 (.var 1)), (.int .i64 (.var 2))])] (.c (.bool (.var 13))) [.dead, .dead] 13 [.bool]
    (.branch (.var 13)
    (.ret (.c (.bool (.lit false))) [.dead])
    (.loop 0 [(.i (.var 0)), (.i (.var 1)), (.i (.var 2)), (.l (.var 3)), (.i (.var 4)), (.i (.var 5)), (.i (.var 6)), (.i (.var 7)), (.i (.var 8)), (.i (.var 9)), (.b (.var 10)), (.i (.lit 0))] 0 T60L0))))))))
theorem eq60 : evFn Try.prog E60 Try.f60 (argsAt A60 0) 11 = T60 := by kernel_rfl
noncomputable def P60 : List (FuncId × Fun) := [(59, S59), (33, S33), (54, S54)]
noncomputable def S60 : Fun := ⟨A60, R60, fun vs => T60.run Try.prog P60 A60 R60 (fun _ _ => none) (envL vs)⟩
theorem ok60 : S60.Ok Try.prog 60 := fun_ok (Φ := P60) (S := S60) mixed plain_ok Try.func60 (by kernel_rfl) (by kernel_rfl) (by kernel_rfl) eq60 (And.intro ok59 (And.intro ok33 (And.intro ok54 trivial))) (fun _ => by kernel_rfl)
noncomputable def g60 (x0 : Int) (x1 : Int) (x2 : Int) (x3 : List (List AV)) (x4 : Int) (x5 : Int) (x6 : Int) (x7 : Int) (x8 : Int) (x9 : Int) (x10 : Bool) : Option (Bool) := S60.g [.i x0, .i x1, .i x2, .l x3, .i x4, .i x5, .i x6, .i x7, .i x8, .i x9, .b x10]
noncomputable def g60L0 (k : Nat) (x0 : Int) (x1 : Int) (x2 : Int) (x3 : List (List AV)) (x4 : Int) (x5 : Int) (x6 : Int) (x7 : Int) (x8 : Int) (x9 : Int) (x10 : Bool) (x11 : Int) : Option (Bool) := iterL (fun rec vs => STree.run Try.prog P60 A60 R60 T60L0 (updR (fun _ _ => none) 0 rec) (bind zeroE 0 vs)) k [.i x0, .i x1, .i x2, .l x3, .i x4, .i x5, .i x6, .i x7, .i x8, .i x9, .b x10, .i x11]
theorem g60L0_eq (k : Nat) (x0 : Int) (x1 : Int) (x2 : Int) (x3 : List (List AV)) (x4 : Int) (x5 : Int) (x6 : Int) (x7 : Int) (x8 : Int) (x9 : Int) (x10 : Bool) (x11 : Int) : g60L0 (k + 1) x0 x1 x2 x3 x4 x5 x6 x7 x8 x9 x10 x11 =
    (if (cop .lss x11 (List.length x3 : Int)) = true then
      elemK x3 x11 [.int .i64, .int .i64, .int .i64] fun (r12 : Int × Int × Int) =>
      (g59 r12.1 r12.2.1 r12.2.2).bind fun (r15 : Bool) =>
      if (!r15) = true then
        some (false)
      else
        reqK ((0 : Int) ≤ x11) <|
        reqK ((x11 : Int) ≤ (List.length x3 : Int)) <|
        elemK x3 x11 [.int .i64, .int .i64, .int .i64] fun (r16 : Int × Int × Int) =>
        (g54 (List.take (Int.toNat x11) x3) r16.1 r16.2.1 r16.2.2).bind fun (r19 : Bool) =>
        if r19 = true then
          some (false)
        else
          g60L0 k x0 x1 x2 x3 x4 x5 x6 x7 x8 x9 x10 (iop .add .i64 x11 1)
    else
      some (true)) := by kernel_rfl
theorem g60_eq (x0 : Int) (x1 : Int) (x2 : Int) (x3 : List (List AV)) (x4 : Int) (x5 : Int) (x6 : Int) (x7 : Int) (x8 : Int) (x9 : Int) (x10 : Bool) : g60 x0 x1 x2 x3 x4 x5 x6 x7 x8 x9 x10 =
    ((g59 x0 x1 x2).bind fun (r11 : Bool) =>
    if (!r11) = true then
      some (false)
    else
      (g33 x4 x5 x6 x7 x8 x9 x10).bind fun (r12 : Bool) =>
      if (!r12) = true then
        some (false)
      else
        if (cop .gtr (List.length x3 : Int) 8) = true then
          some (false)
        else
          (g54 x3 x0 x1 x2).bind fun (r13 : Bool) =>
          if r13 = true then
            some (false)
          else
            g60L0 FUEL x0 x1 x2 x3 x4 x5 x6 x7 x8 x9 x10 0) := by kernel_rfl

/- multikernel/multikernelref10.Child -/
def E45 : Env := envG 49 [6, 7] [] []
def A45 : List AP := [.agg [.int .i64, .int .i64, .int .i64, .slice 3, .int .i64, .int .i64, .int .i64, .int .i64, .int .i64, .int .i64, .bool], .agg [.int .i64, .int .i64, .int .i64], .agg [.int .i64, .int .i64, .int .i64, .int .i64, .int .i64, .int .i64, .bool]]
def R45 : List RSh := [.agg [.int .i64, .int .i64, .int .i64, .slice 3, .int .i64, .int .i64, .int .i64, .int .i64, .int .i64, .int .i64, .bool], .c (.int .i64)]
def T45 : STree := (.call 60 [(.agg [(.int .i64 (.var 0)), (.int .i64 (.var 1)), (.int .i64 (.var 2)), (.slice false 3 (.var 3)), (.int .i64 (.var 4)), (.int .i64 (.var 5)), (.int .i64 (.var 6)), (.int .i64 (.var 7)), (.int .i64 (.var 8)), (.int .i64 (.var 9)), (.bool (.var 10))])] (.c (.bool (.var 21))) [.dead] 21 [.bool]
 (.branch (.not (.var 21))
 (.ret (.tuple [(.agg [(.int .i64 (.lit 0)), (.int .i64 (.lit 0)), (.int .i64 (.lit 0)), (.slice true 0 .nil), (.int .i64 (.lit 0)), (.int .i64 (.lit 0)), (.int .i64 (.lit 0)), (.int .i64 (.lit 0)), (.int .i64 (.lit 0)), (.int .i64 (.lit 0)), (.bool (.lit false))]), (.c (.int .i64 (.lit 1)))]) [.dead, .dead, .dead])
 (.call 59 [(.agg [(.int .i64 (.var 11)), (.int .i64 (.var 12)), (.int .i64 (.var 13))])] (.c (.bool (.var 22))) [.dead] 22 [.bool]
  (.branch (.not (.var 22))
  (.ret (.tuple [(.agg [(.int .i64 (.lit 0)), (.int .i64 (.lit 0)), (.int .i64 (.lit 0)), (.slice true 0 .nil), (.int .i64 (.lit 0)), (.int .i64 (.lit 0)), (.int .i64 (.lit 0)), (.int .i64 (.lit 0)), (.int .i64 (.lit 0)), (.int .i64 (.lit 0)), (.bool (.lit false))]), (.c (.int .i64 (.lit 1)))]) [.dead, .dead, .dead])
  (.call 33 [(.agg [(.int .i64 (.var 14)), (.int .i64 (.var 15)), (.int .i64 (.var 16)), (.int .i64 (.var 17)), (.int .i64 (.var 18)), (.int .i64 (.var 19)), (.bool (.var 20))])] (.c (.bool (.var 23))) [.dead] 23 [.bool]
   (.branch (.not (.var 23))
   (.ret (.tuple [(.agg [(.int .i64 (.lit 0)), (.int .i64 (.lit 0)), (.int .i64 (.lit 0)), (.slice true 0 .nil), (.int .i64 (.lit 0)), (.int .i64 (.lit 0)), (.int .i64 (.lit 0)), (.int .i64 (.lit 0)), (.int .i64 (.lit 0)), (.int .i64 (.lit 0)), (.bool (.lit false))]), (.c (.int .i64 (.lit 1)))]) [.dead, .dead, .dead])
   (.branch (.and (.cmp .eql (.var 11) (.var 0)) (.and (.cmp .eql (.var 12) (.var 1)) (.and (.cmp .eql (.var 13) (.var 2)) (.lit true))))
    (.ret (.tuple [(.agg [(.int .i64 (.lit 0)), (.int .i64 (.lit 0)), (.int .i64 (.lit 0)), (.slice true 0 .nil), (.int .i64 (.lit 0)), (.int .i64 (.lit 0)), (.int .i64 (.lit 0)), (.int .i64 (.lit 0)), (.int .i64 (.lit 0)), (.int .i64 (.lit 0)), (.bool (.lit false))]), (.c (.int .i64 (.lit 1)))]) [.dead, .dead, .dead])
    (.call 54 [(.c (.slice false 3 (.var 3))), (.agg [(.int .i64 (.var 11)), (.int .i64 (.var 12)), (.int .i64 (.var 13))])] (.c (.bool (.var 24))) [.dead, .dead] 24 [.bool]
     (.branch (.var 24)
     (.ret (.tuple [(.agg [(.int .i64 (.lit 0)), (.int .i64 (.lit 0)), (.int .i64 (.lit 0)), (.slice true 0 .nil), (.int .i64 (.lit 0)), (.int .i64 (.lit 0)), (.int .i64 (.lit 0)), (.int .i64 (.lit 0)), (.int .i64 (.lit 0)), (.int .i64 (.lit 0)), (.bool (.lit false))]), (.c (.int .i64 (.lit 1)))]) [.dead, .dead, .dead])
     (.branch (.cmp .eql (.len (.var 3)) (.lit 8))
      (.ret (.tuple [(.agg [(.int .i64 (.lit 0)), (.int .i64 (.lit 0)), (.int .i64 (.lit 0)), (.slice true 0 .nil), (.int .i64 (.lit 0)), (.int .i64 (.lit 0)), (.int .i64 (.lit 0)), (.int .i64 (.lit 0)), (.int .i64 (.lit 0)), (.int .i64 (.lit 0)), (.bool (.lit false))]), (.c (.int .i64 (.lit 9)))]) [.dead, .dead, .dead])
      (.call 56 [(.c (.slice false 3 (.var 3)))] (.own 55 (.var 25)) [.dead] 25 [.own 55]
       (.req (.room (.var 25) (.snoc .nil (.cons (.int .i64 (.var 0)) (.cons (.int .i64 (.var 1)) (.cons (.int .i64 (.var 2)) .nil)))) 24)
       (.ret (.tuple [(.agg [(.int .i64 (.var 11)), (.int .i64 (.var 12)), (.int .i64 (.var 13)), (.slice false 3 (.app (.var 25) (.snoc .nil (.cons (.int .i64 (.var 0)) (.cons (.int .i64 (.var 1)) (.cons (.int .i64 (.var 2)) .nil)))))), (.int .i64 (.var 14)), (.int .i64 (.var 15)), (.int .i64 (.var 16)), (.int .i64 (.var 17)), (.int .i64 (.var 18)), (.int .i64 (.var 19)), (.bool (.var 20))]), (.c (.int .i64 (.lit 0)))]) [.dead, .dead, .dead])))))))))))))
theorem eq45 : evFn Try.prog E45 Try.f45 (argsAt A45 0) 21 = T45 := by kernel_rfl
noncomputable def P45 : List (FuncId × Fun) := [(60, S60), (59, S59), (33, S33), (54, S54), (56, S56)]
noncomputable def S45 : Fun := ⟨A45, R45, fun vs => T45.run Try.prog P45 A45 R45 (fun _ _ => none) (envL vs)⟩
theorem ok45 : S45.Ok Try.prog 45 := fun_ok (Φ := P45) (S := S45) mixed plain_ok Try.func45 (by kernel_rfl) (by kernel_rfl) (by kernel_rfl) eq45 (And.intro ok60 (And.intro ok59 (And.intro ok33 (And.intro ok54 (And.intro ok56 trivial))))) (fun _ => by kernel_rfl)
noncomputable def g45 (x0 : Int) (x1 : Int) (x2 : Int) (x3 : List (List AV)) (x4 : Int) (x5 : Int) (x6 : Int) (x7 : Int) (x8 : Int) (x9 : Int) (x10 : Bool) (x11 : Int) (x12 : Int) (x13 : Int) (x14 : Int) (x15 : Int) (x16 : Int) (x17 : Int) (x18 : Int) (x19 : Int) (x20 : Bool) : Option (Int × Int × Int × List (List AV) × Int × Int × Int × Int × Int × Int × Bool × Int) := S45.g [.i x0, .i x1, .i x2, .l x3, .i x4, .i x5, .i x6, .i x7, .i x8, .i x9, .b x10, .i x11, .i x12, .i x13, .i x14, .i x15, .i x16, .i x17, .i x18, .i x19, .b x20]
theorem g45_eq (x0 : Int) (x1 : Int) (x2 : Int) (x3 : List (List AV)) (x4 : Int) (x5 : Int) (x6 : Int) (x7 : Int) (x8 : Int) (x9 : Int) (x10 : Bool) (x11 : Int) (x12 : Int) (x13 : Int) (x14 : Int) (x15 : Int) (x16 : Int) (x17 : Int) (x18 : Int) (x19 : Int) (x20 : Bool) : g45 x0 x1 x2 x3 x4 x5 x6 x7 x8 x9 x10 x11 x12 x13 x14 x15 x16 x17 x18 x19 x20 =
    ((g60 x0 x1 x2 x3 x4 x5 x6 x7 x8 x9 x10).bind fun (r21 : Bool) =>
    if (!r21) = true then
      some (0, 0, 0, ([] : List (List AV)), 0, 0, 0, 0, 0, 0, false, 1)
    else
      (g59 x11 x12 x13).bind fun (r22 : Bool) =>
      if (!r22) = true then
        some (0, 0, 0, ([] : List (List AV)), 0, 0, 0, 0, 0, 0, false, 1)
      else
        (g33 x14 x15 x16 x17 x18 x19 x20).bind fun (r23 : Bool) =>
        if (!r23) = true then
          some (0, 0, 0, ([] : List (List AV)), 0, 0, 0, 0, 0, 0, false, 1)
        else
          if ((cop .eql x11 x0) && ((cop .eql x12 x1) && ((cop .eql x13 x2) && true))) = true then
            some (0, 0, 0, ([] : List (List AV)), 0, 0, 0, 0, 0, 0, false, 1)
          else
            (g54 x3 x11 x12 x13).bind fun (r24 : Bool) =>
            if r24 = true then
              some (0, 0, 0, ([] : List (List AV)), 0, 0, 0, 0, 0, 0, false, 1)
            else
              if (cop .eql (List.length x3 : Int) 8) = true then
                some (0, 0, 0, ([] : List (List AV)), 0, 0, 0, 0, 0, 0, false, 9)
              else
                (g56 x3).bind fun (r25 : List (List AV)) =>
                reqK (roomP r25 (([] : List (List AV)) ++ [[AV.val (.int .i64 x0), AV.val (.int .i64 x1), AV.val (.int .i64 x2)]]) 24) <|
                some (x11, x12, x13, (r25 ++ (([] : List (List AV)) ++ [[AV.val (.int .i64 x0), AV.val (.int .i64 x1), AV.val (.int .i64 x2)]])), x14, x15, x16, x17, x18, x19, x20, 0)) := by kernel_rfl

/- multikernel/multikernelref10.SameIds -/
def E79 : Env := envG 26 [4] [(4, [(0, .c (.slice 3)), (1, .c (.slice 3)), (5, .c (.int .i64))])] []
def A79 : List AP := [.c (.slice 3), .c (.slice 3)]
def R79 : List RSh := [.c (.bool)]
def T79L0 : STree := (.branch (.cmp .lss (.var 2) (.len (.var 0)))
 (.elem (.var 0) (.var 2) [.int .i64, .int .i64, .int .i64] 3
  (.elem (.var 1) (.var 2) [.int .i64, .int .i64, .int .i64] 6
  (.branch (.not (.and (.cmp .eql (.var 3) (.var 6)) (.and (.cmp .eql (.var 4) (.var 7)) (.and (.cmp .eql (.var 5) (.var 8)) (.lit true)))))
  (.ret (.c (.bool (.lit false))) [.dead, .dead])
  (.again 0 [(.l (.var 0)), (.l (.var 1)), (.i (.bin .add .i64 (.var 2) (.lit 1)))]))))
 (.ret (.c (.bool (.lit true))) [.dead, .dead]))
def T79 : STree := (.branch (.cmp .neq (.len (.var 0)) (.len (.var 1)))
 (.ret (.c (.bool (.lit false))) [.dead, .dead])
 (.loop 0 [(.l (.var 0)), (.l (.var 1)), (.i (.lit 0))] 0 T79L0))
theorem eq79 : evFn Try.prog E79 Try.f79 (argsAt A79 0) 2 = T79 := by kernel_rfl
noncomputable def P79 : List (FuncId × Fun) := []
noncomputable def S79 : Fun := ⟨A79, R79, fun vs => T79.run Try.prog P79 A79 R79 (fun _ _ => none) (envL vs)⟩
theorem ok79 : S79.Ok Try.prog 79 := fun_ok (Φ := P79) (S := S79) mixed plain_ok Try.func79 (by kernel_rfl) (by kernel_rfl) (by kernel_rfl) eq79 trivial (fun _ => by kernel_rfl)
noncomputable def g79 (x0 : List (List AV)) (x1 : List (List AV)) : Option (Bool) := S79.g [.l x0, .l x1]
noncomputable def g79L0 (k : Nat) (x0 : List (List AV)) (x1 : List (List AV)) (x2 : Int) : Option (Bool) := iterL (fun rec vs => STree.run Try.prog P79 A79 R79 T79L0 (updR (fun _ _ => none) 0 rec) (bind zeroE 0 vs)) k [.l x0, .l x1, .i x2]
theorem g79L0_eq (k : Nat) (x0 : List (List AV)) (x1 : List (List AV)) (x2 : Int) : g79L0 (k + 1) x0 x1 x2 =
    (if (cop .lss x2 (List.length x0 : Int)) = true then
      elemK x0 x2 [.int .i64, .int .i64, .int .i64] fun (r3 : Int × Int × Int) =>
      elemK x1 x2 [.int .i64, .int .i64, .int .i64] fun (r6 : Int × Int × Int) =>
      if (!((cop .eql r3.1 r6.1) && ((cop .eql r3.2.1 r6.2.1) && ((cop .eql r3.2.2 r6.2.2) && true)))) = true then
        some (false)
      else
        g79L0 k x0 x1 (iop .add .i64 x2 1)
    else
      some (true)) := by kernel_rfl
theorem g79_eq (x0 : List (List AV)) (x1 : List (List AV)) : g79 x0 x1 =
    (if (cop .neq (List.length x0 : Int) (List.length x1 : Int)) = true then
      some (false)
    else
      g79L0 FUEL x0 x1 0) := by kernel_rfl

/- multikernel/multikernelref10.SameNode -/
def E46 : Env := envG 24 [4] [] []
def A46 : List AP := [.agg [.int .i64, .int .i64, .int .i64, .slice 3, .int .i64, .int .i64, .int .i64, .int .i64, .int .i64, .int .i64, .bool], .agg [.int .i64, .int .i64, .int .i64, .slice 3, .int .i64, .int .i64, .int .i64, .int .i64, .int .i64, .int .i64, .bool]]
def R46 : List RSh := [.c (.bool)]
def T46 : STree := (.branch (.and (.cmp .eql (.var 0) (.var 11)) (.and (.cmp .eql (.var 1) (.var 12)) (.and (.cmp .eql (.var 2) (.var 13)) (.lit true))))
 (.branch (.and (.cmp .eql (.var 4) (.var 15)) (.and (.cmp .eql (.var 5) (.var 16)) (.and (.cmp .eql (.var 6) (.var 17)) (.and (.cmp .eql (.var 7) (.var 18)) (.and (.cmp .eql (.var 8) (.var 19)) (.and (.cmp .eql (.var 9) (.var 20)) (.and (.beq (.var 10) (.var 21)) (.lit true))))))))
  (.call 79 [(.c (.slice false 3 (.var 3))), (.c (.slice false 3 (.var 14)))] (.c (.bool (.var 22))) [.dead, .dead] 22 [.bool]
   (.ret (.c (.bool (.var 22))) [.dead, .dead]))
  (.ret (.c (.bool (.lit false))) [.dead, .dead]))
 (.ret (.c (.bool (.lit false))) [.dead, .dead]))
theorem eq46 : evFn Try.prog E46 Try.f46 (argsAt A46 0) 22 = T46 := by kernel_rfl
noncomputable def P46 : List (FuncId × Fun) := [(79, S79)]
noncomputable def S46 : Fun := ⟨A46, R46, fun vs => T46.run Try.prog P46 A46 R46 (fun _ _ => none) (envL vs)⟩
theorem ok46 : S46.Ok Try.prog 46 := fun_ok (Φ := P46) (S := S46) mixed plain_ok Try.func46 (by kernel_rfl) (by kernel_rfl) (by kernel_rfl) eq46 (And.intro ok79 trivial) (fun _ => by kernel_rfl)
noncomputable def g46 (x0 : Int) (x1 : Int) (x2 : Int) (x3 : List (List AV)) (x4 : Int) (x5 : Int) (x6 : Int) (x7 : Int) (x8 : Int) (x9 : Int) (x10 : Bool) (x11 : Int) (x12 : Int) (x13 : Int) (x14 : List (List AV)) (x15 : Int) (x16 : Int) (x17 : Int) (x18 : Int) (x19 : Int) (x20 : Int) (x21 : Bool) : Option (Bool) := S46.g [.i x0, .i x1, .i x2, .l x3, .i x4, .i x5, .i x6, .i x7, .i x8, .i x9, .b x10, .i x11, .i x12, .i x13, .l x14, .i x15, .i x16, .i x17, .i x18, .i x19, .i x20, .b x21]
theorem g46_eq (x0 : Int) (x1 : Int) (x2 : Int) (x3 : List (List AV)) (x4 : Int) (x5 : Int) (x6 : Int) (x7 : Int) (x8 : Int) (x9 : Int) (x10 : Bool) (x11 : Int) (x12 : Int) (x13 : Int) (x14 : List (List AV)) (x15 : Int) (x16 : Int) (x17 : Int) (x18 : Int) (x19 : Int) (x20 : Int) (x21 : Bool) : g46 x0 x1 x2 x3 x4 x5 x6 x7 x8 x9 x10 x11 x12 x13 x14 x15 x16 x17 x18 x19 x20 x21 =
    (if ((cop .eql x0 x11) && ((cop .eql x1 x12) && ((cop .eql x2 x13) && true))) = true then
      if ((cop .eql x4 x15) && ((cop .eql x5 x16) && ((cop .eql x6 x17) && ((cop .eql x7 x18) && ((cop .eql x8 x19) && ((cop .eql x9 x20) && ((x10 == x21) && true))))))) = true then
        (g79 x3 x14).bind fun (r22 : Bool) =>
        some (r22)
      else
        some (false)
    else
      some (false)) := by kernel_rfl

/- multikernel/multikernellaw12.NodeChildExact -/
def E12 : Env := envG 42 [6] [] []
def A12 : List AP := [.agg [.int .i64, .int .i64, .int .i64, .slice 3, .int .i64, .int .i64, .int .i64, .int .i64, .int .i64, .int .i64, .bool], .agg [.int .i64, .int .i64, .int .i64], .agg [.int .i64, .int .i64, .int .i64, .int .i64, .int .i64, .int .i64, .bool]]
def R12 : List RSh := [.c (.bool)]
def T12 : STree := (.branch (.cmp .gtr (.len (.var 3)) (.lit 40))
 (.call 42 [] (.c (.bool (.var 21))) [] 21 [.bool]
  (.ret (.c (.bool (.var 21))) [.dead, .dead, .dead]))
 (.call 44 [(.agg [(.int .i64 (.var 0)), (.int .i64 (.var 1)), (.int .i64 (.var 2)), (.slice false 3 (.var 3)), (.int .i64 (.var 4)), (.int .i64 (.var 5)), (.int .i64 (.var 6)), (.int .i64 (.var 7)), (.int .i64 (.var 8)), (.int .i64 (.var 9)), (.bool (.var 10))])] (.agg [(.int .i64 (.var 21)), (.int .i64 (.var 22)), (.int .i64 (.var 23)), (.slice false 3 (.var 24)), (.int .i64 (.var 25)), (.int .i64 (.var 26)), (.int .i64 (.var 27)), (.int .i64 (.var 28)), (.int .i64 (.var 29)), (.int .i64 (.var 30)), (.bool (.var 31))]) [.dead] 21 [.int .i64, .int .i64, .int .i64, .slice 3, .int .i64, .int .i64, .int .i64, .int .i64, .int .i64, .int .i64, .bool]
  (.call 43 [(.agg [(.int .i64 (.var 21)), (.int .i64 (.var 22)), (.int .i64 (.var 23)), (.slice false 3 (.var 24)), (.int .i64 (.var 25)), (.int .i64 (.var 26)), (.int .i64 (.var 27)), (.int .i64 (.var 28)), (.int .i64 (.var 29)), (.int .i64 (.var 30)), (.bool (.var 31))]), (.agg [(.int .i64 (.var 11)), (.int .i64 (.var 12)), (.int .i64 (.var 13))]), (.agg [(.int .i64 (.var 14)), (.int .i64 (.var 15)), (.int .i64 (.var 16)), (.int .i64 (.var 17)), (.int .i64 (.var 18)), (.int .i64 (.var 19)), (.bool (.var 20))])] (.tuple [(.agg [(.int .i64 (.var 32)), (.int .i64 (.var 33)), (.int .i64 (.var 34)), (.slice false 3 (.var 35)), (.int .i64 (.var 36)), (.int .i64 (.var 37)), (.int .i64 (.var 38)), (.int .i64 (.var 39)), (.int .i64 (.var 40)), (.int .i64 (.var 41)), (.bool (.var 42))]), (.c (.int .i64 (.var 43)))]) [.dead, .dead, .dead] 32 [.int .i64, .int .i64, .int .i64, .slice 3, .int .i64, .int .i64, .int .i64, .int .i64, .int .i64, .int .i64, .bool, .int .i64]
  (.call 45 [(.agg [(.int .i64 (.var 0)), (.int .i64 (.var 1)), (.int .i64 (.var 2)), (.slice false 3 (.var 3)), (.int .i64 (.var 4)), (.int .i64 (.var 5)), (.int .i64 (.var 6)), (.int .i64 (.var 7)), (.int .i64 (.var 8)), (.int .i64 (.var 9)), (.bool (.var 10))]), (.agg [(.int .i64 (.var 11)), (.int .i64 (.var 12)), (.int .i64 (.var 13))]), (.agg [(.int .i64 (.var 14)), (.int .i64 (.var 15)), (.int .i64 (.var 16)), (.int .i64 (.var 17)), (.int .i64 (.var 18)), (.int .i64 (.var 19)), (.bool (.var 20))])] (.tuple [(.agg [(.int .i64 (.var 44)), (.int .i64 (.var 45)), (.int .i64 (.var 46)), (.slice false 3 (.var 47)), (.int .i64 (.var 48)), (.int .i64 (.var 49)), (.int .i64 (.var 50)), (.int .i64 (.var 51)), (.int .i64 (.var 52)), (.int .i64 (.var 53)), (.bool (.var 54))]), (.c (.int .i64 (.var 55)))]) [.dead, .dead, .dead] 44 [.int .i64, .int .i64, .int .i64, .slice 3, .int .i64, .int .i64, .int .i64, .int .i64, .int .i64, .int .i64, .bool, .int .i64]
  (.call 46 [(.agg [(.int .i64 (.var 32)), (.int .i64 (.var 33)), (.int .i64 (.var 34)), (.slice false 3 (.var 35)), (.int .i64 (.var 36)), (.int .i64 (.var 37)), (.int .i64 (.var 38)), (.int .i64 (.var 39)), (.int .i64 (.var 40)), (.int .i64 (.var 41)), (.bool (.var 42))]), (.agg [(.int .i64 (.var 44)), (.int .i64 (.var 45)), (.int .i64 (.var 46)), (.slice false 3 (.var 47)), (.int .i64 (.var 48)), (.int .i64 (.var 49)), (.int .i64 (.var 50)), (.int .i64 (.var 51)), (.int .i64 (.var 52)), (.int .i64 (.var 53)), (.bool (.var 54))])] (.c (.bool (.var 56))) [.dead, .dead] 56 [.bool]
  (.branch (.var 56)
  (.branch (.cmp .eql (.var 43) (.var 55))
   (.call 42 [] (.c (.bool (.var 57))) [] 57 [.bool]
    (.ret (.c (.bool (.var 57))) [.dead, .dead, .dead]))
   (.ret (.c (.bool (.lit false))) [.dead, .dead, .dead]))
  (.ret (.c (.bool (.lit false))) [.dead, .dead, .dead])))))))
theorem eq12 : evFn Try.prog E12 Try.f12 (argsAt A12 0) 21 = T12 := by kernel_rfl
noncomputable def P12 : List (FuncId × Fun) := [(42, S42), (44, S44), (43, S43), (45, S45), (46, S46)]
noncomputable def S12 : Fun := ⟨A12, R12, fun vs => T12.run Try.prog P12 A12 R12 (fun _ _ => none) (envL vs)⟩
theorem ok12 : S12.Ok Try.prog 12 := fun_ok (Φ := P12) (S := S12) mixed plain_ok Try.func12 (by kernel_rfl) (by kernel_rfl) (by kernel_rfl) eq12 (And.intro ok42 (And.intro ok44 (And.intro ok43 (And.intro ok45 (And.intro ok46 trivial))))) (fun _ => by kernel_rfl)
noncomputable def g12 (x0 : Int) (x1 : Int) (x2 : Int) (x3 : List (List AV)) (x4 : Int) (x5 : Int) (x6 : Int) (x7 : Int) (x8 : Int) (x9 : Int) (x10 : Bool) (x11 : Int) (x12 : Int) (x13 : Int) (x14 : Int) (x15 : Int) (x16 : Int) (x17 : Int) (x18 : Int) (x19 : Int) (x20 : Bool) : Option (Bool) := S12.g [.i x0, .i x1, .i x2, .l x3, .i x4, .i x5, .i x6, .i x7, .i x8, .i x9, .b x10, .i x11, .i x12, .i x13, .i x14, .i x15, .i x16, .i x17, .i x18, .i x19, .b x20]
theorem g12_eq (x0 : Int) (x1 : Int) (x2 : Int) (x3 : List (List AV)) (x4 : Int) (x5 : Int) (x6 : Int) (x7 : Int) (x8 : Int) (x9 : Int) (x10 : Bool) (x11 : Int) (x12 : Int) (x13 : Int) (x14 : Int) (x15 : Int) (x16 : Int) (x17 : Int) (x18 : Int) (x19 : Int) (x20 : Bool) : g12 x0 x1 x2 x3 x4 x5 x6 x7 x8 x9 x10 x11 x12 x13 x14 x15 x16 x17 x18 x19 x20 =
    (if (cop .gtr (List.length x3 : Int) 40) = true then
      (g42).bind fun (r21 : Bool) =>
      some (r21)
    else
      (g44 x0 x1 x2 x3 x4 x5 x6 x7 x8 x9 x10).bind fun (r21 : Int × Int × Int × List (List AV) × Int × Int × Int × Int × Int × Int × Bool) =>
      (g43 r21.1 r21.2.1 r21.2.2.1 r21.2.2.2.1 r21.2.2.2.2.1 r21.2.2.2.2.2.1 r21.2.2.2.2.2.2.1 r21.2.2.2.2.2.2.2.1 r21.2.2.2.2.2.2.2.2.1 r21.2.2.2.2.2.2.2.2.2.1 r21.2.2.2.2.2.2.2.2.2.2 x11 x12 x13 x14 x15 x16 x17 x18 x19 x20).bind fun (r32 : Int × Int × Int × List (List AV) × Int × Int × Int × Int × Int × Int × Bool × Int) =>
      (g45 x0 x1 x2 x3 x4 x5 x6 x7 x8 x9 x10 x11 x12 x13 x14 x15 x16 x17 x18 x19 x20).bind fun (r44 : Int × Int × Int × List (List AV) × Int × Int × Int × Int × Int × Int × Bool × Int) =>
      (g46 r32.1 r32.2.1 r32.2.2.1 r32.2.2.2.1 r32.2.2.2.2.1 r32.2.2.2.2.2.1 r32.2.2.2.2.2.2.1 r32.2.2.2.2.2.2.2.1 r32.2.2.2.2.2.2.2.2.1 r32.2.2.2.2.2.2.2.2.2.1 r32.2.2.2.2.2.2.2.2.2.2.1 r44.1 r44.2.1 r44.2.2.1 r44.2.2.2.1 r44.2.2.2.2.1 r44.2.2.2.2.2.1 r44.2.2.2.2.2.2.1 r44.2.2.2.2.2.2.2.1 r44.2.2.2.2.2.2.2.2.1 r44.2.2.2.2.2.2.2.2.2.1 r44.2.2.2.2.2.2.2.2.2.2.1).bind fun (r56 : Bool) =>
      if r56 = true then
        if (cop .eql r32.2.2.2.2.2.2.2.2.2.2.2 r44.2.2.2.2.2.2.2.2.2.2.2) = true then
          (g42).bind fun (r57 : Bool) =>
          some (r57)
        else
          some (false)
      else
        some (false)) := by kernel_rfl

/- multikernel/multikernelmake.Id -/
def E51 : Env := envG 15 [6] [] []
def A51 : List AP := [.c (.int .i64), .c (.int .i64), .c (.int .i64)]
def R51 : List RSh := [.agg [.int .i64, .int .i64, .int .i64]]
def T51 : STree := (.call 24 [(.c (.int .i64 (.var 0))), (.c (.int .i64 (.lit 4)))] (.c (.int .i64 (.var 3))) [.dead, .dead] 3 [.int .i64]
 (.call 24 [(.c (.int .i64 (.var 1))), (.c (.int .i64 (.lit 12)))] (.c (.int .i64 (.var 4))) [.dead, .dead] 4 [.int .i64]
 (.call 24 [(.c (.int .i64 (.var 2))), (.c (.int .i64 (.lit 3)))] (.c (.int .i64 (.var 5))) [.dead, .dead] 5 [.int .i64]
 (.ret (.agg [(.int .i64 (.var 3)), (.int .i64 (.bin .add .i64 (.lit 1) (.var 4))), (.int .i64 (.var 5))]) [.dead, .dead, .dead]))))
theorem eq51 : evFn Try.prog E51 Try.f51 (argsAt A51 0) 3 = T51 := by kernel_rfl
noncomputable def P51 : List (FuncId × Fun) := [(24, S24)]
noncomputable def S51 : Fun := ⟨A51, R51, fun vs => T51.run Try.prog P51 A51 R51 (fun _ _ => none) (envL vs)⟩
theorem ok51 : S51.Ok Try.prog 51 := fun_ok (Φ := P51) (S := S51) mixed plain_ok Try.func51 (by kernel_rfl) (by kernel_rfl) (by kernel_rfl) eq51 (And.intro ok24 trivial) (fun _ => by kernel_rfl)
noncomputable def g51 (x0 : Int) (x1 : Int) (x2 : Int) : Option (Int × Int × Int) := S51.g [.i x0, .i x1, .i x2]
theorem g51_eq (x0 : Int) (x1 : Int) (x2 : Int) : g51 x0 x1 x2 =
    ((g24 x0 4).bind fun (r3 : Int) =>
    (g24 x1 12).bind fun (r4 : Int) =>
    (g24 x2 3).bind fun (r5 : Int) =>
    some (r3, (iop .add .i64 1 r4), r5)) := by kernel_rfl

/- multikernel/multikernelmake.Ids -/
def E52 : Env := envG 41 [2] [(3, [(0, .c (.slice 1)), (3, .c (.own 55)), (4, .c (.int .i64))])] []
def A52 : List AP := [.c (.slice 1)]
def R52 : List RSh := [.c (.own 55)]
def T52L0 : STree := (.branch (.cmp .lss (.var 2) (.len (.var 0)))
 (.branch (.cmp .lss (.len (.var 1)) (.lit 8))
  (.elem (.var 0) (.var 2) [.int .i64] 3
   (.elem (.var 0) (.var 2) [.int .i64] 4
   (.req (.ne0 (.lit 4))
   (.elem (.var 0) (.var 2) [.int .i64] 5
   (.req (.ne0 (.lit 48))
   (.call 51 [(.c (.int .i64 (.var 3))), (.c (.int .i64 (.bin .quo .i64 (.var 4) (.lit 4)))), (.c (.int .i64 (.bin .quo .i64 (.var 5) (.lit 48))))] (.agg [(.int .i64 (.var 6)), (.int .i64 (.var 7)), (.int .i64 (.var 8))]) [.dead, .dead, .dead] 6 [.int .i64, .int .i64, .int .i64]
   (.call 54 [(.c (.slice false 3 (.var 1))), (.agg [(.int .i64 (.var 6)), (.int .i64 (.var 7)), (.int .i64 (.var 8))])] (.c (.bool (.var 9))) [.dead, .dead] 9 [.bool]
   (.branch (.not (.var 9))
   (.req (.room (.var 1) (.snoc .nil (.cons (.int .i64 (.var 6)) (.cons (.int .i64 (.var 7)) (.cons (.int .i64 (.var 8)) .nil)))) 24)
    (.again 0 [(.l (.var 0)), (.l (.app (.var 1) (.snoc .nil (.cons (.int .i64 (.var 6)) (.cons (.int .i64 (.var 7)) (.cons (.int .i64 (.var 8)) .nil)))))), (.i (.bin .add .i64 (.var 2) (.lit 1)))]))
   (.again 0 [(.l (.var 0)), (.l (.var 1)), (.i (.bin .add .i64 (.var 2) (.lit 1)))])))))))))
  (.ret (.own 55 (.var 1)) [.dead]))
 (.ret (.own 55 (.var 1)) [.dead]))
def T52 : STree := (.loop 0 [(.l (.var 0)), (.l .nil), (.i (.lit 0))] 0 T52L0)
theorem eq52 : evFn Try.prog E52 Try.f52 (argsAt A52 0) 1 = T52 := by kernel_rfl
noncomputable def P52 : List (FuncId × Fun) := [(51, S51), (54, S54)]
noncomputable def S52 : Fun := ⟨A52, R52, fun vs => T52.run Try.prog P52 A52 R52 (fun _ _ => none) (envL vs)⟩
theorem ok52 : S52.Ok Try.prog 52 := fun_ok (Φ := P52) (S := S52) mixed plain_ok Try.func52 (by kernel_rfl) (by kernel_rfl) (by kernel_rfl) eq52 (And.intro ok51 (And.intro ok54 trivial)) (fun _ => by kernel_rfl)
noncomputable def g52 (x0 : List (List AV)) : Option (List (List AV)) := S52.g [.l x0]
noncomputable def g52L0 (k : Nat) (x0 : List (List AV)) (x1 : List (List AV)) (x2 : Int) : Option (List (List AV)) := iterL (fun rec vs => STree.run Try.prog P52 A52 R52 T52L0 (updR (fun _ _ => none) 0 rec) (bind zeroE 0 vs)) k [.l x0, .l x1, .i x2]
theorem g52L0_eq (k : Nat) (x0 : List (List AV)) (x1 : List (List AV)) (x2 : Int) : g52L0 (k + 1) x0 x1 x2 =
    (if (cop .lss x2 (List.length x0 : Int)) = true then
      if (cop .lss (List.length x1 : Int) 8) = true then
        elemK x0 x2 [.int .i64] fun (r3 : Int) =>
        elemK x0 x2 [.int .i64] fun (r4 : Int) =>
        reqK ((4 : Int) ≠ 0) <|
        elemK x0 x2 [.int .i64] fun (r5 : Int) =>
        reqK ((48 : Int) ≠ 0) <|
        (g51 r3 (iop .quo .i64 r4 4) (iop .quo .i64 r5 48)).bind fun (r6 : Int × Int × Int) =>
        (g54 x1 r6.1 r6.2.1 r6.2.2).bind fun (r9 : Bool) =>
        if (!r9) = true then
          reqK (roomP x1 (([] : List (List AV)) ++ [[AV.val (.int .i64 r6.1), AV.val (.int .i64 r6.2.1), AV.val (.int .i64 r6.2.2)]]) 24) <|
          g52L0 k x0 (x1 ++ (([] : List (List AV)) ++ [[AV.val (.int .i64 r6.1), AV.val (.int .i64 r6.2.1), AV.val (.int .i64 r6.2.2)]])) (iop .add .i64 x2 1)
        else
          g52L0 k x0 x1 (iop .add .i64 x2 1)
      else
        some (x1)
    else
      some (x1)) := by kernel_rfl
theorem g52_eq (x0 : List (List AV)) : g52 x0 =
    (g52L0 FUEL x0 ([] : List (List AV)) 0) := by kernel_rfl

/- multikernel/multikernelmake.Node -/
def E47 : Env := envG 48 [10] [(4, [(10, .box [.int .i64, .int .i64, .int .i64, .slice 3, .int .i64, .int .i64, .int .i64, .int .i64, .int .i64, .int .i64, .bool]), (11, .box [.int .i64, .int .i64, .int .i64, .slice 3, .int .i64, .int .i64, .int .i64, .int .i64, .int .i64, .int .i64, .bool]), (12, .c (.slice 3)), (13, .c (.int .i64))])] []
def A47 : List AP := [.c (.int .i64), .c (.int .i64), .c (.int .i64), .c (.slice 1), .agg [.int .i64, .int .i64, .int .i64, .int .i64, .int .i64, .int .i64, .bool]]
def R47 : List RSh := [.agg [.int .i64, .int .i64, .int .i64, .slice 3, .int .i64, .int .i64, .int .i64, .int .i64, .int .i64, .int .i64, .bool]]
def T47L0 : STree := (.branch (.cmp .lss (.var 23) (.len (.var 22)))
 (.elem (.var 22) (.var 23) [.int .i64, .int .i64, .int .i64] 24
  (.branch (.not (.and (.cmp .eql (.var 24) (.var 11)) (.and (.cmp .eql (.var 25) (.var 12)) (.and (.cmp .eql (.var 26) (.var 13)) (.lit true)))))
  (.call 56 [(.c (.slice false 3 (.var 14)))] (.own 55 (.var 27)) [.dead] 27 [.own 55]
   (.elem (.var 22) (.var 23) [.int .i64, .int .i64, .int .i64] 28
   (.req (.room (.var 27) (.snoc .nil (.cons (.int .i64 (.var 28)) (.cons (.int .i64 (.var 29)) (.cons (.int .i64 (.var 30)) .nil)))) 24)
   (.again 0 [(.i (.var 0)), (.i (.var 1)), (.i (.var 2)), (.l (.var 3)), (.i (.var 4)), (.i (.var 5)), (.i (.var 6)), (.i (.var 7)), (.i (.var 8)), (.i (.var 9)), (.b (.var 10)), (.i (.var 11)), (.i (.var 12)), (.i (.var 13)), (.l (.app (.var 27) (.snoc .nil (.cons (.int .i64 (.var 28)) (.cons (.int .i64 (.var 29)) (.cons (.int .i64 (.var 30)) .nil)))))), (.i (.var 15)), (.i (.var 16)), (.i (.var 17)), (.i (.var 18)), (.i (.var 19)), (.i (.var 20)), (.b (.var 21)), (.l (.var 22)), (.i (.bin .add .i64 (.var 23) (.lit 1)))]))))
  (.again 0 [(.i (.var 0)), (.i (.var 1)), (.i (.var 2)), (.l (.var 3)), (.i (.var 4)), (.i (.var 5)), (.i (.var 6)), (.i (.var 7)), (.i (.var 8)), (.i (.var 9)), (.b (.var 10)), (.i (.var 11)), (.i (.var 12)), (.i (.var 13)), (.l (.var 14)), (.i (.var 15)), (.i (.var 16)), (.i (.var 17)), (.i (.var 18)), (.i (.var 19)), (.i (.var 20)), (.b (.var 21)), (.l (.var 22)), (.i (.bin .add .i64 (.var 23) (.lit 1)))])))
 (.ret (.agg [(.int .i64 (.var 11)), (.int .i64 (.var 12)), (.int .i64 (.var 13)), (.slice false 3 (.var 14)), (.int .i64 (.var 15)), (.int .i64 (.var 16)), (.int .i64 (.var 17)), (.int .i64 (.var 18)), (.int .i64 (.var 19)), (.int .i64 (.var 20)), (.bool (.var 21))]) [.dead, .dead, .dead, .dead, .dead]))
def T47 : STree := (.call 51 [(.c (.int .i64 (.var 0))), (.c (.int .i64 (.var 1))), (.c (.int .i64 (.var 2)))] (.agg [(.int .i64 (.var 11)), (.int .i64 (.var 12)), (.int .i64 (.var 13))]) [.dead, .dead, .dead] 11 [.int .i64, .int .i64, .int .i64]
 (.call 52 [(.c (.slice false 1 (.var 3)))] (.own 55 (.var 14)) [.dead] 14 [.own 55]
 (.loop 0 [(.i (.lit 0)), (.i (.lit 0)), (.i (.lit 0)), (.l .nil), (.i (.lit 0)), (.i (.lit 0)), (.i (.lit 0)), (.i (.lit 0)), (.i (.lit 0)), (.i (.lit 0)), (.b (.lit false)), (.i (.var 11)), (.i (.var 12)), (.i (.var 13)), (.l .nil), (.i (.var 4)), (.i (.var 5)), (.i (.var 6)), (.i (.var 7)), (.i (.var 8)), (.i (.var 9)), (.b (.var 10)), (.l (.var 14)), (.i (.lit 0))] 0 T47L0)))
theorem eq47 : evFn Try.prog E47 Try.f47 (argsAt A47 0) 11 = T47 := by kernel_rfl
noncomputable def P47 : List (FuncId × Fun) := [(51, S51), (52, S52), (56, S56)]
noncomputable def S47 : Fun := ⟨A47, R47, fun vs => T47.run Try.prog P47 A47 R47 (fun _ _ => none) (envL vs)⟩
theorem ok47 : S47.Ok Try.prog 47 := fun_ok (Φ := P47) (S := S47) mixed plain_ok Try.func47 (by kernel_rfl) (by kernel_rfl) (by kernel_rfl) eq47 (And.intro ok51 (And.intro ok52 (And.intro ok56 trivial))) (fun _ => by kernel_rfl)
noncomputable def g47 (x0 : Int) (x1 : Int) (x2 : Int) (x3 : List (List AV)) (x4 : Int) (x5 : Int) (x6 : Int) (x7 : Int) (x8 : Int) (x9 : Int) (x10 : Bool) : Option (Int × Int × Int × List (List AV) × Int × Int × Int × Int × Int × Int × Bool) := S47.g [.i x0, .i x1, .i x2, .l x3, .i x4, .i x5, .i x6, .i x7, .i x8, .i x9, .b x10]
noncomputable def g47L0 (k : Nat) (x0 : Int) (x1 : Int) (x2 : Int) (x3 : List (List AV)) (x4 : Int) (x5 : Int) (x6 : Int) (x7 : Int) (x8 : Int) (x9 : Int) (x10 : Bool) (x11 : Int) (x12 : Int) (x13 : Int) (x14 : List (List AV)) (x15 : Int) (x16 : Int) (x17 : Int) (x18 : Int) (x19 : Int) (x20 : Int) (x21 : Bool) (x22 : List (List AV)) (x23 : Int) : Option (Int × Int × Int × List (List AV) × Int × Int × Int × Int × Int × Int × Bool) := iterL (fun rec vs => STree.run Try.prog P47 A47 R47 T47L0 (updR (fun _ _ => none) 0 rec) (bind zeroE 0 vs)) k [.i x0, .i x1, .i x2, .l x3, .i x4, .i x5, .i x6, .i x7, .i x8, .i x9, .b x10, .i x11, .i x12, .i x13, .l x14, .i x15, .i x16, .i x17, .i x18, .i x19, .i x20, .b x21, .l x22, .i x23]
theorem g47L0_eq (k : Nat) (x0 : Int) (x1 : Int) (x2 : Int) (x3 : List (List AV)) (x4 : Int) (x5 : Int) (x6 : Int) (x7 : Int) (x8 : Int) (x9 : Int) (x10 : Bool) (x11 : Int) (x12 : Int) (x13 : Int) (x14 : List (List AV)) (x15 : Int) (x16 : Int) (x17 : Int) (x18 : Int) (x19 : Int) (x20 : Int) (x21 : Bool) (x22 : List (List AV)) (x23 : Int) : g47L0 (k + 1) x0 x1 x2 x3 x4 x5 x6 x7 x8 x9 x10 x11 x12 x13 x14 x15 x16 x17 x18 x19 x20 x21 x22 x23 =
    (if (cop .lss x23 (List.length x22 : Int)) = true then
      elemK x22 x23 [.int .i64, .int .i64, .int .i64] fun (r24 : Int × Int × Int) =>
      if (!((cop .eql r24.1 x11) && ((cop .eql r24.2.1 x12) && ((cop .eql r24.2.2 x13) && true)))) = true then
        (g56 x14).bind fun (r27 : List (List AV)) =>
        elemK x22 x23 [.int .i64, .int .i64, .int .i64] fun (r28 : Int × Int × Int) =>
        reqK (roomP r27 (([] : List (List AV)) ++ [[AV.val (.int .i64 r28.1), AV.val (.int .i64 r28.2.1), AV.val (.int .i64 r28.2.2)]]) 24) <|
        g47L0 k x0 x1 x2 x3 x4 x5 x6 x7 x8 x9 x10 x11 x12 x13 (r27 ++ (([] : List (List AV)) ++ [[AV.val (.int .i64 r28.1), AV.val (.int .i64 r28.2.1), AV.val (.int .i64 r28.2.2)]])) x15 x16 x17 x18 x19 x20 x21 x22 (iop .add .i64 x23 1)
      else
        g47L0 k x0 x1 x2 x3 x4 x5 x6 x7 x8 x9 x10 x11 x12 x13 x14 x15 x16 x17 x18 x19 x20 x21 x22 (iop .add .i64 x23 1)
    else
      some (x11, x12, x13, x14, x15, x16, x17, x18, x19, x20, x21)) := by kernel_rfl
theorem g47_eq (x0 : Int) (x1 : Int) (x2 : Int) (x3 : List (List AV)) (x4 : Int) (x5 : Int) (x6 : Int) (x7 : Int) (x8 : Int) (x9 : Int) (x10 : Bool) : g47 x0 x1 x2 x3 x4 x5 x6 x7 x8 x9 x10 =
    ((g51 x0 x1 x2).bind fun (r11 : Int × Int × Int) =>
    (g52 x3).bind fun (r14 : List (List AV)) =>
    g47L0 FUEL 0 0 0 ([] : List (List AV)) 0 0 0 0 0 0 false r11.1 r11.2.1 r11.2.2 ([] : List (List AV)) x4 x5 x6 x7 x8 x9 x10 r14 0) := by kernel_rfl

/- multikernel/multikernellaw12.NodeLineage -/
def E13 : Env := envG 96 [12] [(10, [(11, .box [.int .i64, .int .i64, .int .i64]), (13, .box [.int .i64, .int .i64, .int .i64, .slice 3, .int .i64, .int .i64, .int .i64, .int .i64, .int .i64, .int .i64, .bool]), (14, .box [.int .i64, .int .i64, .int .i64, .slice 3, .int .i64, .int .i64, .int .i64, .int .i64, .int .i64, .int .i64, .bool]), (16, .c (.int .i64))])] []
def A13 : List AP := [.c (.int .i64), .c (.int .i64), .c (.int .i64), .c (.slice 1), .agg [.int .i64, .int .i64, .int .i64], .agg [.int .i64, .int .i64, .int .i64]]
def R13 : List RSh := [.c (.bool)]
def T13L0 : STree := (.branch (.cmp .lss (.var 25) (.len (.var 6)))
 (.elem (.var 6) (.var 25) [.int .i64, .int .i64, .int .i64] 26
  (.call 50 [(.agg [(.int .i64 (.var 14)), (.int .i64 (.var 15)), (.int .i64 (.var 16)), (.slice false 3 (.var 17)), (.int .i64 (.var 18)), (.int .i64 (.var 19)), (.int .i64 (.var 20)), (.int .i64 (.var 21)), (.int .i64 (.var 22)), (.int .i64 (.var 23)), (.bool (.var 24))]), (.agg [(.int .i64 (.var 26)), (.int .i64 (.var 27)), (.int .i64 (.var 28))])] (.c (.bool (.var 29))) [.dead, .dead] 29 [.bool]
  (.branch (.not (.var 29))
  (.ret (.c (.bool (.lit false))) [.dead, .dead, .dead, .dead, .dead, .dead])
  (.again 0 [(.i (.var 0)), (.i (.var 1)), (.i (.var 2)), (.i (.var 3)), (.i (.var 4)), (.i (.var 5)), (.l (.var 6)), (.i (.var 7)), (.i (.var 8)), (.i (.var 9)), (.i (.var 10)), (.i (.var 11)), (.i (.var 12)), (.b (.var 13)), (.i (.var 14)), (.i (.var 15)), (.i (.var 16)), (.l (.var 17)), (.i (.var 18)), (.i (.var 19)), (.i (.var 20)), (.i (.var 21)), (.i (.var 22)), (.i (.var 23)), (.b (.var 24)), (.i (.bin .add .i64 (.var 25) (.lit 1)))]))))
 (.call 50 [(.agg [(.int .i64 (.var 14)), (.int .i64 (.var 15)), (.int .i64 (.var 16)), (.slice false 3 (.var 17)), (.int .i64 (.var 18)), (.int .i64 (.var 19)), (.int .i64 (.var 20)), (.int .i64 (.var 21)), (.int .i64 (.var 22)), (.int .i64 (.var 23)), (.bool (.var 24))]), (.agg [(.int .i64 (.var 0)), (.int .i64 (.var 1)), (.int .i64 (.var 2))])] (.c (.bool (.var 26))) [.dead, .dead] 26 [.bool]
  (.branch (.and (.cmp .eql (.var 0) (.var 3)) (.and (.cmp .eql (.var 1) (.var 4)) (.and (.cmp .eql (.var 2) (.var 5)) (.lit true))))
  (.branch (.beq (.var 26) (.lit true))
   (.call 42 [] (.c (.bool (.var 27))) [] 27 [.bool]
    (.ret (.c (.bool (.var 27))) [.dead, .dead, .dead, .dead, .dead, .dead]))
   (.ret (.c (.bool (.lit false))) [.dead, .dead, .dead, .dead, .dead, .dead]))
  (.call 50 [(.agg [(.int .i64 (.var 3)), (.int .i64 (.var 4)), (.int .i64 (.var 5)), (.slice false 3 (.var 6)), (.int .i64 (.var 7)), (.int .i64 (.var 8)), (.int .i64 (.var 9)), (.int .i64 (.var 10)), (.int .i64 (.var 11)), (.int .i64 (.var 12)), (.bool (.var 13))]), (.agg [(.int .i64 (.var 0)), (.int .i64 (.var 1)), (.int .i64 (.var 2))])] (.c (.bool (.var 27))) [.dead, .dead] 27 [.bool]
   (.branch (.beq (.var 26) (.var 27))
   (.call 42 [] (.c (.bool (.var 28))) [] 28 [.bool]
    (.ret (.c (.bool (.var 28))) [.dead, .dead, .dead, .dead, .dead, .dead]))
   (.ret (.c (.bool (.lit false))) [.dead, .dead, .dead, .dead, .dead, .dead]))))))
def T13 : STree := (.branch (.cmp .gtr (.len (.var 3)) (.lit 40))
 (.call 42 [] (.c (.bool (.var 10))) [] 10 [.bool]
  (.ret (.c (.bool (.var 10))) [.dead, .dead, .dead, .dead, .dead, .dead]))
 (.call 48 [] (.agg [(.int .i64 (.var 10)), (.int .i64 (.var 11)), (.int .i64 (.var 12)), (.int .i64 (.var 13)), (.int .i64 (.var 14)), (.int .i64 (.var 15)), (.bool (.var 16))]) [] 10 [.int .i64, .int .i64, .int .i64, .int .i64, .int .i64, .int .i64, .bool]
  (.call 47 [(.c (.int .i64 (.var 0))), (.c (.int .i64 (.var 1))), (.c (.int .i64 (.var 2))), (.c (.slice false 1 (.var 3))), (.agg [(.int .i64 (.var 10)), (.int .i64 (.var 11)), (.int .i64 (.var 12)), (.int .i64 (.var 13)), (.int .i64 (.var 14)), (.int .i64 (.var 15)), (.bool (.var 16))])] (.agg [(.int .i64 (.var 17)), (.int .i64 (.var 18)), (.int .i64 (.var 19)), (.slice false 3 (.var 20)), (.int .i64 (.var 21)), (.int .i64 (.var 22)), (.int .i64 (.var 23)), (.int .i64 (.var 24)), (.int .i64 (.var 25)), (.int .i64 (.var 26)), (.bool (.var 27))]) [.dead, .dead, .dead, .dead, .dead] 17 [.int .i64, .int .i64, .int .i64, .slice 3, .int .i64, .int .i64, .int .i64, .int .i64, .int .i64, .int .i64, .bool]
  (.call 48 [] (.agg [(.int .i64 (.var 28)), (.int .i64 (.var 29)), (.int .i64 (.var 30)), (.int .i64 (.var 31)), (.int .i64 (.var 32)), (.int .i64 (.var 33)), (.bool (.var 34))]) [] 28 [.int .i64, .int .i64, .int .i64, .int .i64, .int .i64, .int .i64, .bool]
  (.call 43 [(.agg [(.int .i64 (.var 17)), (.int .i64 (.var 18)), (.int .i64 (.var 19)), (.slice false 3 (.var 20)), (.int .i64 (.var 21)), (.int .i64 (.var 22)), (.int .i64 (.var 23)), (.int .i64 (.var 24)), (.int .i64 (.var 25)), (.int .i64 (.var 26)), (.bool (.var 27))]), (.agg [(.int .i64 (.var 4)), (.int .i64 (.var 5)), (.int .i64 (.var 6))]), (.agg [(.int .i64 (.var 28)), (.int .i64 (.var 29)), (.int .i64 (.var 30)), (.int .i64 (.var 31)), (.int .i64 (.var 32)), (.int .i64 (.var 33)), (.bool (.var 34))])] (.tuple [(.agg [(.int .i64 (.var 35)), (.int .i64 (.var 36)), (.int .i64 (.var 37)), (.slice false 3 (.var 38)), (.int .i64 (.var 39)), (.int .i64 (.var 40)), (.int .i64 (.var 41)), (.int .i64 (.var 42)), (.int .i64 (.var 43)), (.int .i64 (.var 44)), (.bool (.var 45))]), (.c (.int .i64 (.var 46)))]) [.dead, .dead, .dead] 35 [.int .i64, .int .i64, .int .i64, .slice 3, .int .i64, .int .i64, .int .i64, .int .i64, .int .i64, .int .i64, .bool, .int .i64]
  (.branch (.cmp .neq (.var 46) (.lit 0))
  (.branch (.and (.cmp .eql (.var 35) (.lit 0)) (.and (.cmp .eql (.var 36) (.lit 0)) (.and (.cmp .eql (.var 37) (.lit 0)) (.lit true))))
   (.call 42 [] (.c (.bool (.var 47))) [] 47 [.bool]
    (.ret (.c (.bool (.var 47))) [.dead, .dead, .dead, .dead, .dead, .dead]))
   (.ret (.c (.bool (.lit false))) [.dead, .dead, .dead, .dead, .dead, .dead]))
  (.call 49 [(.agg [(.int .i64 (.var 35)), (.int .i64 (.var 36)), (.int .i64 (.var 37)), (.slice false 3 (.var 38)), (.int .i64 (.var 39)), (.int .i64 (.var 40)), (.int .i64 (.var 41)), (.int .i64 (.var 42)), (.int .i64 (.var 43)), (.int .i64 (.var 44)), (.bool (.var 45))])] (.c (.bool (.var 47))) [.dead] 47 [.bool]
   (.branch (.not (.var 47))
   (.ret (.c (.bool (.lit false))) [.dead, .dead, .dead, .dead, .dead, .dead])
   (.call 50 [(.agg [(.int .i64 (.var 35)), (.int .i64 (.var 36)), (.int .i64 (.var 37)), (.slice false 3 (.var 38)), (.int .i64 (.var 39)), (.int .i64 (.var 40)), (.int .i64 (.var 41)), (.int .i64 (.var 42)), (.int .i64 (.var 43)), (.int .i64 (.var 44)), (.bool (.var 45))]), (.agg [(.int .i64 (.var 17)), (.int .i64 (.var 18)), (.int .i64 (.var 19))])] (.c (.bool (.var 48))) [.dead, .dead] 48 [.bool]
    (.branch (.not (.var 48))
    (.ret (.c (.bool (.lit false))) [.dead, .dead, .dead, .dead, .dead, .dead])
    (.branch (.not (.and (.cmp .eql (.var 35) (.var 4)) (.and (.cmp .eql (.var 36) (.var 5)) (.and (.cmp .eql (.var 37) (.var 6)) (.lit true)))))
     (.ret (.c (.bool (.lit false))) [.dead, .dead, .dead, .dead, .dead, .dead])
     (.call 48 [] (.agg [(.int .i64 (.var 49)), (.int .i64 (.var 50)), (.int .i64 (.var 51)), (.int .i64 (.var 52)), (.int .i64 (.var 53)), (.int .i64 (.var 54)), (.bool (.var 55))]) [] 49 [.int .i64, .int .i64, .int .i64, .int .i64, .int .i64, .int .i64, .bool]
      (.branch (.not (.and (.cmp .eql (.var 39) (.var 49)) (.and (.cmp .eql (.var 40) (.var 50)) (.and (.cmp .eql (.var 41) (.var 51)) (.and (.cmp .eql (.var 42) (.var 52)) (.and (.cmp .eql (.var 43) (.var 53)) (.and (.cmp .eql (.var 44) (.var 54)) (.and (.beq (.var 45) (.var 55)) (.lit true)))))))))
      (.ret (.c (.bool (.lit false))) [.dead, .dead, .dead, .dead, .dead, .dead])
      (.loop 0 [(.i (.var 7)), (.i (.var 8)), (.i (.var 9)), (.i (.var 17)), (.i (.var 18)), (.i (.var 19)), (.l (.var 20)), (.i (.var 21)), (.i (.var 22)), (.i (.var 23)), (.i (.var 24)), (.i (.var 25)), (.i (.var 26)), (.b (.var 27)), (.i (.var 35)), (.i (.var 36)), (.i (.var 37)), (.l (.var 38)), (.i (.var 39)), (.i (.var 40)), (.i (.var 41)), (.i (.var 42)), (.i (.var 43)), (.i (.var 44)), (.b (.var 45)), (.i (.lit 0))] 0 T13L0))))))))))))))
theorem eq13 : evFn Try.prog E13 Try.f13 (argsAt A13 0) 10 = T13 := by kernel_rfl
noncomputable def P13 : List (FuncId × Fun) := [(42, S42), (48, S48), (47, S47), (43, S43), (49, S49), (50, S50)]
noncomputable def S13 : Fun := ⟨A13, R13, fun vs => T13.run Try.prog P13 A13 R13 (fun _ _ => none) (envL vs)⟩
theorem ok13 : S13.Ok Try.prog 13 := fun_ok (Φ := P13) (S := S13) mixed plain_ok Try.func13 (by kernel_rfl) (by kernel_rfl) (by kernel_rfl) eq13 (And.intro ok42 (And.intro ok48 (And.intro ok47 (And.intro ok43 (And.intro ok49 (And.intro ok50 trivial)))))) (fun _ => by kernel_rfl)
noncomputable def g13 (x0 : Int) (x1 : Int) (x2 : Int) (x3 : List (List AV)) (x4 : Int) (x5 : Int) (x6 : Int) (x7 : Int) (x8 : Int) (x9 : Int) : Option (Bool) := S13.g [.i x0, .i x1, .i x2, .l x3, .i x4, .i x5, .i x6, .i x7, .i x8, .i x9]
noncomputable def g13L0 (k : Nat) (x0 : Int) (x1 : Int) (x2 : Int) (x3 : Int) (x4 : Int) (x5 : Int) (x6 : List (List AV)) (x7 : Int) (x8 : Int) (x9 : Int) (x10 : Int) (x11 : Int) (x12 : Int) (x13 : Bool) (x14 : Int) (x15 : Int) (x16 : Int) (x17 : List (List AV)) (x18 : Int) (x19 : Int) (x20 : Int) (x21 : Int) (x22 : Int) (x23 : Int) (x24 : Bool) (x25 : Int) : Option (Bool) := iterL (fun rec vs => STree.run Try.prog P13 A13 R13 T13L0 (updR (fun _ _ => none) 0 rec) (bind zeroE 0 vs)) k [.i x0, .i x1, .i x2, .i x3, .i x4, .i x5, .l x6, .i x7, .i x8, .i x9, .i x10, .i x11, .i x12, .b x13, .i x14, .i x15, .i x16, .l x17, .i x18, .i x19, .i x20, .i x21, .i x22, .i x23, .b x24, .i x25]
theorem g13L0_eq (k : Nat) (x0 : Int) (x1 : Int) (x2 : Int) (x3 : Int) (x4 : Int) (x5 : Int) (x6 : List (List AV)) (x7 : Int) (x8 : Int) (x9 : Int) (x10 : Int) (x11 : Int) (x12 : Int) (x13 : Bool) (x14 : Int) (x15 : Int) (x16 : Int) (x17 : List (List AV)) (x18 : Int) (x19 : Int) (x20 : Int) (x21 : Int) (x22 : Int) (x23 : Int) (x24 : Bool) (x25 : Int) : g13L0 (k + 1) x0 x1 x2 x3 x4 x5 x6 x7 x8 x9 x10 x11 x12 x13 x14 x15 x16 x17 x18 x19 x20 x21 x22 x23 x24 x25 =
    (if (cop .lss x25 (List.length x6 : Int)) = true then
      elemK x6 x25 [.int .i64, .int .i64, .int .i64] fun (r26 : Int × Int × Int) =>
      (g50 x14 x15 x16 x17 x18 x19 x20 x21 x22 x23 x24 r26.1 r26.2.1 r26.2.2).bind fun (r29 : Bool) =>
      if (!r29) = true then
        some (false)
      else
        g13L0 k x0 x1 x2 x3 x4 x5 x6 x7 x8 x9 x10 x11 x12 x13 x14 x15 x16 x17 x18 x19 x20 x21 x22 x23 x24 (iop .add .i64 x25 1)
    else
      (g50 x14 x15 x16 x17 x18 x19 x20 x21 x22 x23 x24 x0 x1 x2).bind fun (r26 : Bool) =>
      if ((cop .eql x0 x3) && ((cop .eql x1 x4) && ((cop .eql x2 x5) && true))) = true then
        if (r26 == true) = true then
          (g42).bind fun (r27 : Bool) =>
          some (r27)
        else
          some (false)
      else
        (g50 x3 x4 x5 x6 x7 x8 x9 x10 x11 x12 x13 x0 x1 x2).bind fun (r27 : Bool) =>
        if (r26 == r27) = true then
          (g42).bind fun (r28 : Bool) =>
          some (r28)
        else
          some (false)) := by kernel_rfl
theorem g13_eq (x0 : Int) (x1 : Int) (x2 : Int) (x3 : List (List AV)) (x4 : Int) (x5 : Int) (x6 : Int) (x7 : Int) (x8 : Int) (x9 : Int) : g13 x0 x1 x2 x3 x4 x5 x6 x7 x8 x9 =
    (if (cop .gtr (List.length x3 : Int) 40) = true then
      (g42).bind fun (r10 : Bool) =>
      some (r10)
    else
      (g48).bind fun (r10 : Int × Int × Int × Int × Int × Int × Bool) =>
      (g47 x0 x1 x2 x3 r10.1 r10.2.1 r10.2.2.1 r10.2.2.2.1 r10.2.2.2.2.1 r10.2.2.2.2.2.1 r10.2.2.2.2.2.2).bind fun (r17 : Int × Int × Int × List (List AV) × Int × Int × Int × Int × Int × Int × Bool) =>
      (g48).bind fun (r28 : Int × Int × Int × Int × Int × Int × Bool) =>
      (g43 r17.1 r17.2.1 r17.2.2.1 r17.2.2.2.1 r17.2.2.2.2.1 r17.2.2.2.2.2.1 r17.2.2.2.2.2.2.1 r17.2.2.2.2.2.2.2.1 r17.2.2.2.2.2.2.2.2.1 r17.2.2.2.2.2.2.2.2.2.1 r17.2.2.2.2.2.2.2.2.2.2 x4 x5 x6 r28.1 r28.2.1 r28.2.2.1 r28.2.2.2.1 r28.2.2.2.2.1 r28.2.2.2.2.2.1 r28.2.2.2.2.2.2).bind fun (r35 : Int × Int × Int × List (List AV) × Int × Int × Int × Int × Int × Int × Bool × Int) =>
      if (cop .neq r35.2.2.2.2.2.2.2.2.2.2.2 0) = true then
        if ((cop .eql r35.1 0) && ((cop .eql r35.2.1 0) && ((cop .eql r35.2.2.1 0) && true))) = true then
          (g42).bind fun (r47 : Bool) =>
          some (r47)
        else
          some (false)
      else
        (g49 r35.1 r35.2.1 r35.2.2.1 r35.2.2.2.1 r35.2.2.2.2.1 r35.2.2.2.2.2.1 r35.2.2.2.2.2.2.1 r35.2.2.2.2.2.2.2.1 r35.2.2.2.2.2.2.2.2.1 r35.2.2.2.2.2.2.2.2.2.1 r35.2.2.2.2.2.2.2.2.2.2.1).bind fun (r47 : Bool) =>
        if (!r47) = true then
          some (false)
        else
          (g50 r35.1 r35.2.1 r35.2.2.1 r35.2.2.2.1 r35.2.2.2.2.1 r35.2.2.2.2.2.1 r35.2.2.2.2.2.2.1 r35.2.2.2.2.2.2.2.1 r35.2.2.2.2.2.2.2.2.1 r35.2.2.2.2.2.2.2.2.2.1 r35.2.2.2.2.2.2.2.2.2.2.1 r17.1 r17.2.1 r17.2.2.1).bind fun (r48 : Bool) =>
          if (!r48) = true then
            some (false)
          else
            if (!((cop .eql r35.1 x4) && ((cop .eql r35.2.1 x5) && ((cop .eql r35.2.2.1 x6) && true)))) = true then
              some (false)
            else
              (g48).bind fun (r49 : Int × Int × Int × Int × Int × Int × Bool) =>
              if (!((cop .eql r35.2.2.2.2.1 r49.1) && ((cop .eql r35.2.2.2.2.2.1 r49.2.1) && ((cop .eql r35.2.2.2.2.2.2.1 r49.2.2.1) && ((cop .eql r35.2.2.2.2.2.2.2.1 r49.2.2.2.1) && ((cop .eql r35.2.2.2.2.2.2.2.2.1 r49.2.2.2.2.1) && ((cop .eql r35.2.2.2.2.2.2.2.2.2.1 r49.2.2.2.2.2.1) && ((r35.2.2.2.2.2.2.2.2.2.2.1 == r49.2.2.2.2.2.2) && true)))))))) = true then
                some (false)
              else
                g13L0 FUEL x7 x8 x9 r17.1 r17.2.1 r17.2.2.1 r17.2.2.2.1 r17.2.2.2.2.1 r17.2.2.2.2.2.1 r17.2.2.2.2.2.2.1 r17.2.2.2.2.2.2.2.1 r17.2.2.2.2.2.2.2.2.1 r17.2.2.2.2.2.2.2.2.2.1 r17.2.2.2.2.2.2.2.2.2.2 r35.1 r35.2.1 r35.2.2.1 r35.2.2.2.1 r35.2.2.2.2.1 r35.2.2.2.2.2.1 r35.2.2.2.2.2.2.1 r35.2.2.2.2.2.2.2.1 r35.2.2.2.2.2.2.2.2.1 r35.2.2.2.2.2.2.2.2.2.1 r35.2.2.2.2.2.2.2.2.2.2.1 0) := by kernel_rfl

/- multikernel/multikernellaw12.NodeDepth -/
def E14 : Env := envG 62 [4] [(4, [(5, .box [.int .i64, .int .i64, .int .i64, .slice 3, .int .i64, .int .i64, .int .i64, .int .i64, .int .i64, .int .i64, .bool]), (6, .c (.int .i64)), (7, .c (.int .i64))])] []
def A14 : List AP := [.c (.int .i64), .c (.int .i64)]
def R14 : List RSh := [.c (.bool)]
def T14L0 : STree := (.branch (.cmp .lss (.var 12) (.var 11))
 (.call 48 [] (.agg [(.int .i64 (.var 13)), (.int .i64 (.var 14)), (.int .i64 (.var 15)), (.int .i64 (.var 16)), (.int .i64 (.var 17)), (.int .i64 (.var 18)), (.bool (.var 19))]) [] 13 [.int .i64, .int .i64, .int .i64, .int .i64, .int .i64, .int .i64, .bool]
  (.call 43 [(.agg [(.int .i64 (.var 0)), (.int .i64 (.var 1)), (.int .i64 (.var 2)), (.slice false 3 (.var 3)), (.int .i64 (.var 4)), (.int .i64 (.var 5)), (.int .i64 (.var 6)), (.int .i64 (.var 7)), (.int .i64 (.var 8)), (.int .i64 (.var 9)), (.bool (.var 10))]), (.agg [(.int .i64 (.lit 5)), (.int .i64 (.bin .add .i64 (.var 12) (.lit 1))), (.int .i64 (.lit 0))]), (.agg [(.int .i64 (.var 13)), (.int .i64 (.var 14)), (.int .i64 (.var 15)), (.int .i64 (.var 16)), (.int .i64 (.var 17)), (.int .i64 (.var 18)), (.bool (.var 19))])] (.tuple [(.agg [(.int .i64 (.var 20)), (.int .i64 (.var 21)), (.int .i64 (.var 22)), (.slice false 3 (.var 23)), (.int .i64 (.var 24)), (.int .i64 (.var 25)), (.int .i64 (.var 26)), (.int .i64 (.var 27)), (.int .i64 (.var 28)), (.int .i64 (.var 29)), (.bool (.var 30))]), (.c (.int .i64 (.var 31)))]) [.dead, .dead, .dead] 20 [.int .i64, .int .i64, .int .i64, .slice 3, .int .i64, .int .i64, .int .i64, .int .i64, .int .i64, .int .i64, .bool, .int .i64]
  (.branch (.cmp .geq (.var 12) (.lit 8))
  (.branch (.cmp .eql (.var 31) (.lit 9))
   (.branch (.cmp .eql (.len (.var 23)) (.lit 0))
    (.call 42 [] (.c (.bool (.var 32))) [] 32 [.bool]
     (.ret (.c (.bool (.var 32))) [.dead, .dead]))
    (.ret (.c (.bool (.lit false))) [.dead, .dead]))
   (.ret (.c (.bool (.lit false))) [.dead, .dead]))
  (.branch (.cmp .neq (.var 31) (.lit 0))
   (.ret (.c (.bool (.lit false))) [.dead, .dead])
   (.branch (.cmp .neq (.len (.var 23)) (.bin .add .i64 (.var 12) (.lit 1)))
    (.ret (.c (.bool (.lit false))) [.dead, .dead])
    (.again 0 [(.i (.var 20)), (.i (.var 21)), (.i (.var 22)), (.l (.var 23)), (.i (.var 24)), (.i (.var 25)), (.i (.var 26)), (.i (.var 27)), (.i (.var 28)), (.i (.var 29)), (.b (.var 30)), (.i (.var 11)), (.i (.bin .add .i64 (.var 12) (.lit 1)))]))))))
 (.branch (.cmp .eql (.len (.var 3)) (.var 11))
  (.call 42 [] (.c (.bool (.var 13))) [] 13 [.bool]
   (.ret (.c (.bool (.var 13))) [.dead, .dead]))
  (.ret (.c (.bool (.lit false))) [.dead, .dead])))
def T14 : STree := (.call 51 [(.c (.int .i64 (.var 0))), (.c (.int .i64 (.lit 0))), (.c (.int .i64 (.lit 0)))] (.agg [(.int .i64 (.var 2)), (.int .i64 (.var 3)), (.int .i64 (.var 4))]) [.dead, .dead, .dead] 2 [.int .i64, .int .i64, .int .i64]
 (.call 48 [] (.agg [(.int .i64 (.var 5)), (.int .i64 (.var 6)), (.int .i64 (.var 7)), (.int .i64 (.var 8)), (.int .i64 (.var 9)), (.int .i64 (.var 10)), (.bool (.var 11))]) [] 5 [.int .i64, .int .i64, .int .i64, .int .i64, .int .i64, .int .i64, .bool]
 (.call 24 [(.c (.int .i64 (.var 1))), (.c (.int .i64 (.lit 12)))] (.c (.int .i64 (.var 12))) [.dead, .dead] 12 [.int .i64]
 (.loop 0 [(.i (.var 2)), (.i (.var 3)), (.i (.var 4)), (.l .nil), (.i (.var 5)), (.i (.var 6)), (.i (.var 7)), (.i (.var 8)), (.i (.var 9)), (.i (.var 10)), (.b (.var 11)), (.i (.var 12)), (.i (.lit 0))] 0 T14L0))))
theorem eq14 : evFn Try.prog E14 Try.f14 (argsAt A14 0) 2 = T14 := by kernel_rfl
noncomputable def P14 : List (FuncId × Fun) := [(51, S51), (48, S48), (24, S24), (43, S43), (42, S42)]
noncomputable def S14 : Fun := ⟨A14, R14, fun vs => T14.run Try.prog P14 A14 R14 (fun _ _ => none) (envL vs)⟩
theorem ok14 : S14.Ok Try.prog 14 := fun_ok (Φ := P14) (S := S14) mixed plain_ok Try.func14 (by kernel_rfl) (by kernel_rfl) (by kernel_rfl) eq14 (And.intro ok51 (And.intro ok48 (And.intro ok24 (And.intro ok43 (And.intro ok42 trivial))))) (fun _ => by kernel_rfl)
noncomputable def g14 (x0 : Int) (x1 : Int) : Option (Bool) := S14.g [.i x0, .i x1]
noncomputable def g14L0 (k : Nat) (x0 : Int) (x1 : Int) (x2 : Int) (x3 : List (List AV)) (x4 : Int) (x5 : Int) (x6 : Int) (x7 : Int) (x8 : Int) (x9 : Int) (x10 : Bool) (x11 : Int) (x12 : Int) : Option (Bool) := iterL (fun rec vs => STree.run Try.prog P14 A14 R14 T14L0 (updR (fun _ _ => none) 0 rec) (bind zeroE 0 vs)) k [.i x0, .i x1, .i x2, .l x3, .i x4, .i x5, .i x6, .i x7, .i x8, .i x9, .b x10, .i x11, .i x12]
theorem g14L0_eq (k : Nat) (x0 : Int) (x1 : Int) (x2 : Int) (x3 : List (List AV)) (x4 : Int) (x5 : Int) (x6 : Int) (x7 : Int) (x8 : Int) (x9 : Int) (x10 : Bool) (x11 : Int) (x12 : Int) : g14L0 (k + 1) x0 x1 x2 x3 x4 x5 x6 x7 x8 x9 x10 x11 x12 =
    (if (cop .lss x12 x11) = true then
      (g48).bind fun (r13 : Int × Int × Int × Int × Int × Int × Bool) =>
      (g43 x0 x1 x2 x3 x4 x5 x6 x7 x8 x9 x10 5 (iop .add .i64 x12 1) 0 r13.1 r13.2.1 r13.2.2.1 r13.2.2.2.1 r13.2.2.2.2.1 r13.2.2.2.2.2.1 r13.2.2.2.2.2.2).bind fun (r20 : Int × Int × Int × List (List AV) × Int × Int × Int × Int × Int × Int × Bool × Int) =>
      if (cop .geq x12 8) = true then
        if (cop .eql r20.2.2.2.2.2.2.2.2.2.2.2 9) = true then
          if (cop .eql (List.length r20.2.2.2.1 : Int) 0) = true then
            (g42).bind fun (r32 : Bool) =>
            some (r32)
          else
            some (false)
        else
          some (false)
      else
        if (cop .neq r20.2.2.2.2.2.2.2.2.2.2.2 0) = true then
          some (false)
        else
          if (cop .neq (List.length r20.2.2.2.1 : Int) (iop .add .i64 x12 1)) = true then
            some (false)
          else
            g14L0 k r20.1 r20.2.1 r20.2.2.1 r20.2.2.2.1 r20.2.2.2.2.1 r20.2.2.2.2.2.1 r20.2.2.2.2.2.2.1 r20.2.2.2.2.2.2.2.1 r20.2.2.2.2.2.2.2.2.1 r20.2.2.2.2.2.2.2.2.2.1 r20.2.2.2.2.2.2.2.2.2.2.1 x11 (iop .add .i64 x12 1)
    else
      if (cop .eql (List.length x3 : Int) x11) = true then
        (g42).bind fun (r13 : Bool) =>
        some (r13)
      else
        some (false)) := by kernel_rfl
theorem g14_eq (x0 : Int) (x1 : Int) : g14 x0 x1 =
    ((g51 x0 0 0).bind fun (r2 : Int × Int × Int) =>
    (g48).bind fun (r5 : Int × Int × Int × Int × Int × Int × Bool) =>
    (g24 x1 12).bind fun (r12 : Int) =>
    g14L0 FUEL r2.1 r2.2.1 r2.2.2 ([] : List (List AV)) r5.1 r5.2.1 r5.2.2.1 r5.2.2.2.1 r5.2.2.2.2.1 r5.2.2.2.2.2.1 r5.2.2.2.2.2.2 r12 0) := by kernel_rfl

end Go.Proofs.Ytjfhdhplmibnfaa
