/- Functions of the program, as what they compute. -/
import Derived.Test.YtjfhdhplmibnfaaG
namespace Go.Proofs.Ytjfhdhplmibnfaa
open Go Go.AM
set_option linter.unusedVariables false
set_option maxRecDepth 100000

/- multikernel/captype.sizeAllowed -/
def E67 : Env := envG 38 [4] [] []
def A67 : List AP := [.c (.int .i64), .c (.int .i64)]
def R67 : List RSh := [.c (.bool)]
def T67 : STree := (.branch (.cmp .eql (.var 0) (.lit 1))
 (.branch (.cmp .geq (.var 1) (.lit 6))
  (.ret (.c (.bool (.cmp .leq (.var 1) (.lit 40)))) [.dead, .dead])
  (.ret (.c (.bool (.lit false))) [.dead, .dead]))
 (.branch (.cmp .eql (.var 0) (.lit 2))
  (.branch (.cmp .geq (.var 1) (.lit 12))
   (.ret (.c (.bool (.cmp .leq (.var 1) (.lit 40)))) [.dead, .dead])
   (.ret (.c (.bool (.lit false))) [.dead, .dead]))
  (.branch (.cmp .eql (.var 0) (.lit 3))
   (.ret (.c (.bool (.cmp .eql (.var 1) (.lit 12)))) [.dead, .dead])
   (.branch (.cmp .eql (.var 0) (.lit 4))
    (.ret (.c (.bool (.cmp .eql (.var 1) (.lit 6)))) [.dead, .dead])
    (.branch (.cmp .eql (.var 0) (.lit 5))
     (.ret (.c (.bool (.cmp .eql (.var 1) (.lit 10)))) [.dead, .dead])
     (.branch (.cmp .eql (.var 0) (.lit 6))
      (.ret (.c (.bool (.cmp .eql (.var 1) (.lit 16)))) [.dead, .dead])
      (.ret (.c (.bool (.lit false))) [.dead, .dead])))))))
theorem eq67 : evFn Try.prog E67 Try.f67 (argsAt A67 0) 2 = T67 := by kernel_rfl
noncomputable def P67 : List (FuncId × Fun) := []
noncomputable def S67 : Fun := ⟨A67, R67, fun vs => T67.run Try.prog P67 A67 R67 (fun _ _ => none) (envL vs)⟩
theorem ok67 : S67.Ok Try.prog 67 := fun_ok (Φ := P67) (S := S67) mixed plain_ok Try.func67 (by kernel_rfl) (by kernel_rfl) (by kernel_rfl) eq67 trivial (fun _ => by kernel_rfl)
noncomputable def g67 (x0 : Int) (x1 : Int) : Option (Bool) := S67.g [.i x0, .i x1]
theorem g67_eq (x0 : Int) (x1 : Int) : g67 x0 x1 =
    (if (cop .eql x0 1) = true then
      if (cop .geq x1 6) = true then
        some ((cop .leq x1 40))
      else
        some (false)
    else
      if (cop .eql x0 2) = true then
        if (cop .geq x1 12) = true then
          some ((cop .leq x1 40))
        else
          some (false)
      else
        if (cop .eql x0 3) = true then
          some ((cop .eql x1 12))
        else
          if (cop .eql x0 4) = true then
            some ((cop .eql x1 6))
          else
            if (cop .eql x0 5) = true then
              some ((cop .eql x1 10))
            else
              if (cop .eql x0 6) = true then
                some ((cop .eql x1 16))
              else
                some (false)) := by kernel_rfl

/- multikernel/captype.Range -/
def E32 : Env := envG 8 [2] [] []
def A32 : List AP := [.agg [.int .i64, .int .i64, .int .i64, .int .i64, .int .i64, .int .i64, .bool]]
def R32 : List RSh := [.agg [.int .i64, .int .i64]]
def T32 : STree := (.ret (.agg [(.int .i64 (.var 1)), (.int .i64 (.var 2))]) [.dead])
theorem eq32 : evFn Try.prog E32 Try.f32 (argsAt A32 0) 7 = T32 := by kernel_rfl
noncomputable def P32 : List (FuncId × Fun) := []
noncomputable def S32 : Fun := ⟨A32, R32, fun vs => T32.run Try.prog P32 A32 R32 (fun _ _ => none) (envL vs)⟩
theorem ok32 : S32.Ok Try.prog 32 := fun_ok (Φ := P32) (S := S32) mixed plain_ok Try.func32 (by kernel_rfl) (by kernel_rfl) (by kernel_rfl) eq32 trivial (fun _ => by kernel_rfl)
noncomputable def g32 (x0 : Int) (x1 : Int) (x2 : Int) (x3 : Int) (x4 : Int) (x5 : Int) (x6 : Bool) : Option (Int × Int) := S32.g [.i x0, .i x1, .i x2, .i x3, .i x4, .i x5, .b x6]
theorem g32_eq (x0 : Int) (x1 : Int) (x2 : Int) (x3 : Int) (x4 : Int) (x5 : Int) (x6 : Bool) : g32 x0 x1 x2 x3 x4 x5 x6 =
    (some (x1, x2)) := by kernel_rfl

/- multikernel/memrange.Valid -/
def E71 : Env := envG 32 [2] [] []
def A71 : List AP := [.agg [.int .i64, .int .i64]]
def R71 : List RSh := [.c (.bool)]
def T71 : STree := (.branch (.cmp .lss (.var 1) (.lit 6))
 (.ret (.c (.bool (.lit false))) [.dead])
 (.branch (.cmp .gtr (.var 1) (.lit 40))
  (.ret (.c (.bool (.lit false))) [.dead])
  (.branch (.cmp .lss (.var 0) (.lit 0))
   (.ret (.c (.bool (.lit false))) [.dead])
   (.req (.le (.lit 0) (.var 1))
    (.req (.ne0 (.bin .shl .i64 (.lit 1) (.var 1)))
    (.branch (.cmp .eql (.bin .rem .i64 (.var 0) (.bin .shl .i64 (.lit 1) (.var 1))) (.lit 0))
    (.ret (.c (.bool (.cmp .leq (.var 0) (.bin .sub .i64 (.lit 1099511627776) (.bin .shl .i64 (.lit 1) (.var 1)))))) [.dead])
    (.ret (.c (.bool (.lit false))) [.dead])))))))
theorem eq71 : evFn Try.prog E71 Try.f71 (argsAt A71 0) 2 = T71 := by kernel_rfl
noncomputable def P71 : List (FuncId × Fun) := []
noncomputable def S71 : Fun := ⟨A71, R71, fun vs => T71.run Try.prog P71 A71 R71 (fun _ _ => none) (envL vs)⟩
theorem ok71 : S71.Ok Try.prog 71 := fun_ok (Φ := P71) (S := S71) mixed plain_ok Try.func71 (by kernel_rfl) (by kernel_rfl) (by kernel_rfl) eq71 trivial (fun _ => by kernel_rfl)
noncomputable def g71 (x0 : Int) (x1 : Int) : Option (Bool) := S71.g [.i x0, .i x1]
theorem g71_eq (x0 : Int) (x1 : Int) : g71 x0 x1 =
    (if (cop .lss x1 6) = true then
      some (false)
    else
      if (cop .gtr x1 40) = true then
        some (false)
      else
        if (cop .lss x0 0) = true then
          some (false)
        else
          reqK ((0 : Int) ≤ x1) <|
          reqK (((iop .shl .i64 1 x1) : Int) ≠ 0) <|
          if (cop .eql (iop .rem .i64 x0 (iop .shl .i64 1 x1)) 0) = true then
            some ((cop .leq x0 (iop .sub .i64 1099511627776 (iop .shl .i64 1 x1))))
          else
            some (false)) := by kernel_rfl

/- multikernel/captype.formatAllowed -/
def E68 : Env := envG 22 [4] [] []
def A68 : List AP := [.c (.int .i64), .c (.int .i64)]
def R68 : List RSh := [.c (.bool)]
def T68 : STree := (.branch (.cmp .eql (.var 0) (.lit 32))
 (.branch (.cmp .geq (.var 1) (.lit 0))
  (.ret (.c (.bool (.cmp .leq (.var 1) (.lit 1)))) [.dead, .dead])
  (.ret (.c (.bool (.lit false))) [.dead, .dead]))
 (.branch (.cmp .eql (.var 0) (.lit 39))
  (.branch (.cmp .geq (.var 1) (.lit 0))
   (.ret (.c (.bool (.cmp .leq (.var 1) (.lit 2)))) [.dead, .dead])
   (.ret (.c (.bool (.lit false))) [.dead, .dead]))
  (.ret (.c (.bool (.lit false))) [.dead, .dead])))
theorem eq68 : evFn Try.prog E68 Try.f68 (argsAt A68 0) 2 = T68 := by kernel_rfl
noncomputable def P68 : List (FuncId × Fun) := []
noncomputable def S68 : Fun := ⟨A68, R68, fun vs => T68.run Try.prog P68 A68 R68 (fun _ _ => none) (envL vs)⟩
theorem ok68 : S68.Ok Try.prog 68 := fun_ok (Φ := P68) (S := S68) mixed plain_ok Try.func68 (by kernel_rfl) (by kernel_rfl) (by kernel_rfl) eq68 trivial (fun _ => by kernel_rfl)
noncomputable def g68 (x0 : Int) (x1 : Int) : Option (Bool) := S68.g [.i x0, .i x1]
theorem g68_eq (x0 : Int) (x1 : Int) : g68 x0 x1 =
    (if (cop .eql x0 32) = true then
      if (cop .geq x1 0) = true then
        some ((cop .leq x1 1))
      else
        some (false)
    else
      if (cop .eql x0 39) = true then
        if (cop .geq x1 0) = true then
          some ((cop .leq x1 2))
        else
          some (false)
      else
        some (false)) := by kernel_rfl

/- multikernel/captype.Valid -/
def E28 : Env := envG 55 [2] [] []
def A28 : List AP := [.agg [.int .i64, .int .i64, .int .i64, .int .i64, .int .i64, .int .i64, .bool]]
def R28 : List RSh := [.c (.bool)]
def T28 : STree := (.call 67 [(.c (.int .i64 (.var 0))), (.c (.int .i64 (.var 2)))] (.c (.bool (.var 7))) [.dead, .dead] 7 [.bool]
 (.branch (.not (.var 7))
 (.ret (.c (.bool (.lit false))) [.dead])
 (.call 32 [(.agg [(.int .i64 (.var 0)), (.int .i64 (.var 1)), (.int .i64 (.var 2)), (.int .i64 (.var 3)), (.int .i64 (.var 4)), (.int .i64 (.var 5)), (.bool (.var 6))])] (.agg [(.int .i64 (.var 8)), (.int .i64 (.var 9))]) [.dead] 8 [.int .i64, .int .i64]
  (.call 71 [(.agg [(.int .i64 (.var 8)), (.int .i64 (.var 9))])] (.c (.bool (.var 10))) [.dead] 10 [.bool]
  (.branch (.not (.var 10))
  (.ret (.c (.bool (.lit false))) [.dead])
  (.branch (.cmp .lss (.var 3) (.lit 0))
   (.ret (.c (.bool (.lit false))) [.dead])
   (.branch (.cmp .gtr (.var 3) (.lit 7))
    (.ret (.c (.bool (.lit false))) [.dead])
    (.branch (.cmp .eql (.var 0) (.lit 3))
     (.call 68 [(.c (.int .i64 (.var 4))), (.c (.int .i64 (.var 5)))] (.c (.bool (.var 11))) [.dead, .dead] 11 [.bool]
      (.branch (.not (.var 11))
      (.ret (.c (.bool (.lit false))) [.dead])
      (.branch (.not (.var 6))
       (.ret (.c (.bool (.lit true))) [.dead])
       (.branch (.cmp .eql (.var 0) (.lit 1))
        (.ret (.c (.bool (.lit true))) [.dead])
        (.ret (.c (.bool (.cmp .eql (.var 0) (.lit 2)))) [.dead])))))
     (.branch (.cmp .neq (.var 4) (.lit 0))
      (.ret (.c (.bool (.lit false))) [.dead])
      (.branch (.cmp .neq (.var 5) (.lit 0))
       (.ret (.c (.bool (.lit false))) [.dead])
       (.branch (.not (.var 6))
        (.ret (.c (.bool (.lit true))) [.dead])
        (.branch (.cmp .eql (.var 0) (.lit 1))
         (.ret (.c (.bool (.lit true))) [.dead])
         (.ret (.c (.bool (.cmp .eql (.var 0) (.lit 2)))) [.dead])))))))))))))
theorem eq28 : evFn Try.prog E28 Try.f28 (argsAt A28 0) 7 = T28 := by kernel_rfl
noncomputable def P28 : List (FuncId × Fun) := [(67, S67), (32, S32), (71, S71), (68, S68)]
noncomputable def S28 : Fun := ⟨A28, R28, fun vs => T28.run Try.prog P28 A28 R28 (fun _ _ => none) (envL vs)⟩
theorem ok28 : S28.Ok Try.prog 28 := fun_ok (Φ := P28) (S := S28) mixed plain_ok Try.func28 (by kernel_rfl) (by kernel_rfl) (by kernel_rfl) eq28 (And.intro ok67 (And.intro ok32 (And.intro ok71 (And.intro ok68 trivial)))) (fun _ => by kernel_rfl)
noncomputable def g28 (x0 : Int) (x1 : Int) (x2 : Int) (x3 : Int) (x4 : Int) (x5 : Int) (x6 : Bool) : Option (Bool) := S28.g [.i x0, .i x1, .i x2, .i x3, .i x4, .i x5, .b x6]
theorem g28_eq (x0 : Int) (x1 : Int) (x2 : Int) (x3 : Int) (x4 : Int) (x5 : Int) (x6 : Bool) : g28 x0 x1 x2 x3 x4 x5 x6 =
    ((g67 x0 x2).bind fun (r7 : Bool) =>
    if (!r7) = true then
      some (false)
    else
      (g32 x0 x1 x2 x3 x4 x5 x6).bind fun (r8 : Int × Int) =>
      (g71 r8.1 r8.2).bind fun (r10 : Bool) =>
      if (!r10) = true then
        some (false)
      else
        if (cop .lss x3 0) = true then
          some (false)
        else
          if (cop .gtr x3 7) = true then
            some (false)
          else
            if (cop .eql x0 3) = true then
              (g68 x4 x5).bind fun (r11 : Bool) =>
              if (!r11) = true then
                some (false)
              else
                if (!x6) = true then
                  some (true)
                else
                  if (cop .eql x0 1) = true then
                    some (true)
                  else
                    some ((cop .eql x0 2))
            else
              if (cop .neq x4 0) = true then
                some (false)
              else
                if (cop .neq x5 0) = true then
                  some (false)
                else
                  if (!x6) = true then
                    some (true)
                  else
                    if (cop .eql x0 1) = true then
                      some (true)
                    else
                      some ((cop .eql x0 2))) := by kernel_rfl

/- multikernel/multikernelref10.fixed -/
def E94 : Env := envG 12 [2] [] []
def A94 : List AP := [.c (.int .i64)]
def R94 : List RSh := [.c (.int .i64)]
def T94 : STree := (.branch (.cmp .eql (.var 0) (.lit 3))
 (.ret (.c (.int .i64 (.lit 12))) [.dead])
 (.branch (.cmp .eql (.var 0) (.lit 4))
  (.ret (.c (.int .i64 (.lit 6))) [.dead])
  (.branch (.cmp .eql (.var 0) (.lit 5))
   (.ret (.c (.int .i64 (.lit 10))) [.dead])
   (.branch (.cmp .eql (.var 0) (.lit 6))
    (.ret (.c (.int .i64 (.lit 16))) [.dead])
    (.ret (.c (.int .i64 (.lit 0))) [.dead])))))
theorem eq94 : evFn Try.prog E94 Try.f94 (argsAt A94 0) 1 = T94 := by kernel_rfl
noncomputable def P94 : List (FuncId × Fun) := []
noncomputable def S94 : Fun := ⟨A94, R94, fun vs => T94.run Try.prog P94 A94 R94 (fun _ _ => none) (envL vs)⟩
theorem ok94 : S94.Ok Try.prog 94 := fun_ok (Φ := P94) (S := S94) mixed plain_ok Try.func94 (by kernel_rfl) (by kernel_rfl) (by kernel_rfl) eq94 trivial (fun _ => by kernel_rfl)
noncomputable def g94 (x0 : Int) : Option (Int) := S94.g [.i x0]
theorem g94_eq (x0 : Int) : g94 x0 =
    (if (cop .eql x0 3) = true then
      some (12)
    else
      if (cop .eql x0 4) = true then
        some (6)
      else
        if (cop .eql x0 5) = true then
          some (10)
        else
          if (cop .eql x0 6) = true then
            some (16)
          else
            some (0)) := by kernel_rfl

/- multikernel/multikernelref10.sized -/
def E69 : Env := envG 35 [4] [] []
def A69 : List AP := [.c (.int .i64), .c (.int .i64)]
def R69 : List RSh := [.c (.bool)]
def T69 : STree := (.branch (.cmp .eql (.var 0) (.lit 1))
 (.branch (.cmp .geq (.var 1) (.lit 6))
  (.ret (.c (.bool (.cmp .leq (.var 1) (.lit 40)))) [.dead, .dead])
  (.ret (.c (.bool (.lit false))) [.dead, .dead]))
 (.branch (.cmp .eql (.var 0) (.lit 2))
  (.branch (.cmp .geq (.var 1) (.lit 12))
   (.ret (.c (.bool (.cmp .leq (.var 1) (.lit 40)))) [.dead, .dead])
   (.ret (.c (.bool (.lit false))) [.dead, .dead]))
  (.branch (.cmp .geq (.var 0) (.lit 3))
   (.branch (.cmp .leq (.var 0) (.lit 6))
    (.call 94 [(.c (.int .i64 (.var 0)))] (.c (.int .i64 (.var 2))) [.dead] 2 [.int .i64]
     (.ret (.c (.bool (.cmp .eql (.var 1) (.var 2)))) [.dead, .dead]))
    (.ret (.c (.bool (.lit false))) [.dead, .dead]))
   (.ret (.c (.bool (.lit false))) [.dead, .dead]))))
theorem eq69 : evFn Try.prog E69 Try.f69 (argsAt A69 0) 2 = T69 := by kernel_rfl
noncomputable def P69 : List (FuncId × Fun) := [(94, S94)]
noncomputable def S69 : Fun := ⟨A69, R69, fun vs => T69.run Try.prog P69 A69 R69 (fun _ _ => none) (envL vs)⟩
theorem ok69 : S69.Ok Try.prog 69 := fun_ok (Φ := P69) (S := S69) mixed plain_ok Try.func69 (by kernel_rfl) (by kernel_rfl) (by kernel_rfl) eq69 (And.intro ok94 trivial) (fun _ => by kernel_rfl)
noncomputable def g69 (x0 : Int) (x1 : Int) : Option (Bool) := S69.g [.i x0, .i x1]
theorem g69_eq (x0 : Int) (x1 : Int) : g69 x0 x1 =
    (if (cop .eql x0 1) = true then
      if (cop .geq x1 6) = true then
        some ((cop .leq x1 40))
      else
        some (false)
    else
      if (cop .eql x0 2) = true then
        if (cop .geq x1 12) = true then
          some ((cop .leq x1 40))
        else
          some (false)
      else
        if (cop .geq x0 3) = true then
          if (cop .leq x0 6) = true then
            (g94 x0).bind fun (r2 : Int) =>
            some ((cop .eql x1 r2))
          else
            some (false)
        else
          some (false)) := by kernel_rfl

/- multikernel/multikernelref10.Range -/
def E34 : Env := envG 8 [2] [] []
def A34 : List AP := [.agg [.int .i64, .int .i64, .int .i64, .int .i64, .int .i64, .int .i64, .bool]]
def R34 : List RSh := [.agg [.int .i64, .int .i64]]
def T34 : STree := (.ret (.agg [(.int .i64 (.var 1)), (.int .i64 (.var 2))]) [.dead])
theorem eq34 : evFn Try.prog E34 Try.f34 (argsAt A34 0) 7 = T34 := by kernel_rfl
noncomputable def P34 : List (FuncId × Fun) := []
noncomputable def S34 : Fun := ⟨A34, R34, fun vs => T34.run Try.prog P34 A34 R34 (fun _ _ => none) (envL vs)⟩
theorem ok34 : S34.Ok Try.prog 34 := fun_ok (Φ := P34) (S := S34) mixed plain_ok Try.func34 (by kernel_rfl) (by kernel_rfl) (by kernel_rfl) eq34 trivial (fun _ => by kernel_rfl)
noncomputable def g34 (x0 : Int) (x1 : Int) (x2 : Int) (x3 : Int) (x4 : Int) (x5 : Int) (x6 : Bool) : Option (Int × Int) := S34.g [.i x0, .i x1, .i x2, .i x3, .i x4, .i x5, .b x6]
theorem g34_eq (x0 : Int) (x1 : Int) (x2 : Int) (x3 : Int) (x4 : Int) (x5 : Int) (x6 : Bool) : g34 x0 x1 x2 x3 x4 x5 x6 =
    (some (x1, x2)) := by kernel_rfl

/- multikernel/multikernelref10.ValidRange -/
def E75 : Env := envG 38 [2] [] []
def A75 : List AP := [.agg [.int .i64, .int .i64]]
def R75 : List RSh := [.c (.bool)]
def T75 : STree := (.branch (.cmp .lss (.var 1) (.lit 6))
 (.ret (.c (.bool (.lit false))) [.dead])
 (.branch (.cmp .gtr (.var 1) (.lit 40))
  (.ret (.c (.bool (.lit false))) [.dead])
  (.branch (.cmp .lss (.var 0) (.lit 0))
   (.ret (.c (.bool (.lit false))) [.dead])
   (.branch (.cmp .geq (.var 0) (.lit 1099511627776))
    (.ret (.c (.bool (.lit false))) [.dead])
    (.req (.le (.lit 0) (.conv .u64 (.var 1)))
     (.req (.ne0 (.bin .shl .i64 (.lit 1) (.conv .u64 (.var 1))))
     (.branch (.cmp .eql (.bin .rem .i64 (.var 0) (.bin .shl .i64 (.lit 1) (.conv .u64 (.var 1)))) (.lit 0))
     (.ret (.c (.bool (.cmp .leq (.bin .add .i64 (.var 0) (.bin .shl .i64 (.lit 1) (.conv .u64 (.var 1)))) (.lit 1099511627776)))) [.dead])
     (.ret (.c (.bool (.lit false))) [.dead]))))))))
theorem eq75 : evFn Try.prog E75 Try.f75 (argsAt A75 0) 2 = T75 := by kernel_rfl
noncomputable def P75 : List (FuncId × Fun) := []
noncomputable def S75 : Fun := ⟨A75, R75, fun vs => T75.run Try.prog P75 A75 R75 (fun _ _ => none) (envL vs)⟩
theorem ok75 : S75.Ok Try.prog 75 := fun_ok (Φ := P75) (S := S75) mixed plain_ok Try.func75 (by kernel_rfl) (by kernel_rfl) (by kernel_rfl) eq75 trivial (fun _ => by kernel_rfl)
noncomputable def g75 (x0 : Int) (x1 : Int) : Option (Bool) := S75.g [.i x0, .i x1]
theorem g75_eq (x0 : Int) (x1 : Int) : g75 x0 x1 =
    (if (cop .lss x1 6) = true then
      some (false)
    else
      if (cop .gtr x1 40) = true then
        some (false)
      else
        if (cop .lss x0 0) = true then
          some (false)
        else
          if (cop .geq x0 1099511627776) = true then
            some (false)
          else
            reqK ((0 : Int) ≤ (IntKind.wrap .u64 x1)) <|
            reqK (((iop .shl .i64 1 (IntKind.wrap .u64 x1)) : Int) ≠ 0) <|
            if (cop .eql (iop .rem .i64 x0 (iop .shl .i64 1 (IntKind.wrap .u64 x1))) 0) = true then
              some ((cop .leq (iop .add .i64 x0 (iop .shl .i64 1 (IntKind.wrap .u64 x1))) 1099511627776))
            else
              some (false)) := by kernel_rfl

/- multikernel/multikernelref10.leveled -/
def E70 : Env := envG 23 [4] [] []
def A70 : List AP := [.c (.int .i64), .c (.int .i64)]
def R70 : List RSh := [.c (.bool)]
def T70 : STree := (.branch (.cmp .geq (.var 1) (.lit 0))
 (.branch (.cmp .eql (.var 0) (.lit 32))
  (.branch (.cmp .leq (.var 1) (.lit 1))
   (.ret (.c (.bool (.lit true))) [.dead, .dead])
   (.branch (.cmp .eql (.var 0) (.lit 39))
    (.ret (.c (.bool (.cmp .leq (.var 1) (.lit 2)))) [.dead, .dead])
    (.ret (.c (.bool (.lit false))) [.dead, .dead])))
  (.branch (.cmp .eql (.var 0) (.lit 39))
   (.ret (.c (.bool (.cmp .leq (.var 1) (.lit 2)))) [.dead, .dead])
   (.ret (.c (.bool (.lit false))) [.dead, .dead])))
 (.ret (.c (.bool (.lit false))) [.dead, .dead]))
theorem eq70 : evFn Try.prog E70 Try.f70 (argsAt A70 0) 2 = T70 := by kernel_rfl
noncomputable def P70 : List (FuncId × Fun) := []
noncomputable def S70 : Fun := ⟨A70, R70, fun vs => T70.run Try.prog P70 A70 R70 (fun _ _ => none) (envL vs)⟩
theorem ok70 : S70.Ok Try.prog 70 := fun_ok (Φ := P70) (S := S70) mixed plain_ok Try.func70 (by kernel_rfl) (by kernel_rfl) (by kernel_rfl) eq70 trivial (fun _ => by kernel_rfl)
noncomputable def g70 (x0 : Int) (x1 : Int) : Option (Bool) := S70.g [.i x0, .i x1]
theorem g70_eq (x0 : Int) (x1 : Int) : g70 x0 x1 =
    (if (cop .geq x1 0) = true then
      if (cop .eql x0 32) = true then
        if (cop .leq x1 1) = true then
          some (true)
        else
          if (cop .eql x0 39) = true then
            some ((cop .leq x1 2))
          else
            some (false)
      else
        if (cop .eql x0 39) = true then
          some ((cop .leq x1 2))
        else
          some (false)
    else
      some (false)) := by kernel_rfl

/- multikernel/multikernelref10.ValidCap -/
def E33 : Env := envG 64 [2] [] []
def A33 : List AP := [.agg [.int .i64, .int .i64, .int .i64, .int .i64, .int .i64, .int .i64, .bool]]
def R33 : List RSh := [.c (.bool)]
def T33 : STree := (.call 69 [(.c (.int .i64 (.var 0))), (.c (.int .i64 (.var 2)))] (.c (.bool (.var 7))) [.dead, .dead] 7 [.bool]
 (.branch (.not (.var 7))
 (.ret (.c (.bool (.lit false))) [.dead])
 (.call 34 [(.agg [(.int .i64 (.var 0)), (.int .i64 (.var 1)), (.int .i64 (.var 2)), (.int .i64 (.var 3)), (.int .i64 (.var 4)), (.int .i64 (.var 5)), (.bool (.var 6))])] (.agg [(.int .i64 (.var 8)), (.int .i64 (.var 9))]) [.dead] 8 [.int .i64, .int .i64]
  (.call 75 [(.agg [(.int .i64 (.var 8)), (.int .i64 (.var 9))])] (.c (.bool (.var 10))) [.dead] 10 [.bool]
  (.branch (.not (.var 10))
  (.ret (.c (.bool (.lit false))) [.dead])
  (.branch (.cmp .lss (.var 3) (.lit 0))
   (.ret (.c (.bool (.lit false))) [.dead])
   (.branch (.cmp .gtr (.var 3) (.lit 7))
    (.ret (.c (.bool (.lit false))) [.dead])
    (.branch (.cmp .eql (.var 0) (.lit 3))
     (.call 70 [(.c (.int .i64 (.var 4))), (.c (.int .i64 (.var 5)))] (.c (.bool (.var 11))) [.dead, .dead] 11 [.bool]
      (.branch (.not (.var 11))
      (.ret (.c (.bool (.lit false))) [.dead])
      (.branch (.cmp .neq (.var 0) (.lit 3))
       (.branch (.cmp .neq (.var 4) (.lit 0))
        (.ret (.c (.bool (.lit false))) [.dead])
        (.branch (.cmp .neq (.var 5) (.lit 0))
         (.ret (.c (.bool (.lit false))) [.dead])
         (.branch (.not (.var 6))
          (.ret (.c (.bool (.lit true))) [.dead])
          (.branch (.cmp .eql (.var 0) (.lit 1))
           (.ret (.c (.bool (.lit true))) [.dead])
           (.ret (.c (.bool (.cmp .eql (.var 0) (.lit 2)))) [.dead])))))
       (.branch (.not (.var 6))
        (.ret (.c (.bool (.lit true))) [.dead])
        (.branch (.cmp .eql (.var 0) (.lit 1))
         (.ret (.c (.bool (.lit true))) [.dead])
         (.ret (.c (.bool (.cmp .eql (.var 0) (.lit 2)))) [.dead]))))))
     (.branch (.cmp .neq (.var 0) (.lit 3))
      (.branch (.cmp .neq (.var 4) (.lit 0))
       (.ret (.c (.bool (.lit false))) [.dead])
       (.branch (.cmp .neq (.var 5) (.lit 0))
        (.ret (.c (.bool (.lit false))) [.dead])
        (.branch (.not (.var 6))
         (.ret (.c (.bool (.lit true))) [.dead])
         (.branch (.cmp .eql (.var 0) (.lit 1))
          (.ret (.c (.bool (.lit true))) [.dead])
          (.ret (.c (.bool (.cmp .eql (.var 0) (.lit 2)))) [.dead])))))
      (.branch (.not (.var 6))
       (.ret (.c (.bool (.lit true))) [.dead])
       (.branch (.cmp .eql (.var 0) (.lit 1))
        (.ret (.c (.bool (.lit true))) [.dead])
        (.ret (.c (.bool (.cmp .eql (.var 0) (.lit 2)))) [.dead]))))))))))))
theorem eq33 : evFn Try.prog E33 Try.f33 (argsAt A33 0) 7 = T33 := by kernel_rfl
noncomputable def P33 : List (FuncId × Fun) := [(69, S69), (34, S34), (75, S75), (70, S70)]
noncomputable def S33 : Fun := ⟨A33, R33, fun vs => T33.run Try.prog P33 A33 R33 (fun _ _ => none) (envL vs)⟩
theorem ok33 : S33.Ok Try.prog 33 := fun_ok (Φ := P33) (S := S33) mixed plain_ok Try.func33 (by kernel_rfl) (by kernel_rfl) (by kernel_rfl) eq33 (And.intro ok69 (And.intro ok34 (And.intro ok75 (And.intro ok70 trivial)))) (fun _ => by kernel_rfl)
noncomputable def g33 (x0 : Int) (x1 : Int) (x2 : Int) (x3 : Int) (x4 : Int) (x5 : Int) (x6 : Bool) : Option (Bool) := S33.g [.i x0, .i x1, .i x2, .i x3, .i x4, .i x5, .b x6]
theorem g33_eq (x0 : Int) (x1 : Int) (x2 : Int) (x3 : Int) (x4 : Int) (x5 : Int) (x6 : Bool) : g33 x0 x1 x2 x3 x4 x5 x6 =
    ((g69 x0 x2).bind fun (r7 : Bool) =>
    if (!r7) = true then
      some (false)
    else
      (g34 x0 x1 x2 x3 x4 x5 x6).bind fun (r8 : Int × Int) =>
      (g75 r8.1 r8.2).bind fun (r10 : Bool) =>
      if (!r10) = true then
        some (false)
      else
        if (cop .lss x3 0) = true then
          some (false)
        else
          if (cop .gtr x3 7) = true then
            some (false)
          else
            if (cop .eql x0 3) = true then
              (g70 x4 x5).bind fun (r11 : Bool) =>
              if (!r11) = true then
                some (false)
              else
                if (cop .neq x0 3) = true then
                  if (cop .neq x4 0) = true then
                    some (false)
                  else
                    if (cop .neq x5 0) = true then
                      some (false)
                    else
                      if (!x6) = true then
                        some (true)
                      else
                        if (cop .eql x0 1) = true then
                          some (true)
                        else
                          some ((cop .eql x0 2))
                else
                  if (!x6) = true then
                    some (true)
                  else
                    if (cop .eql x0 1) = true then
                      some (true)
                    else
                      some ((cop .eql x0 2))
            else
              if (cop .neq x0 3) = true then
                if (cop .neq x4 0) = true then
                  some (false)
                else
                  if (cop .neq x5 0) = true then
                    some (false)
                  else
                    if (!x6) = true then
                      some (true)
                    else
                      if (cop .eql x0 1) = true then
                        some (true)
                      else
                        some ((cop .eql x0 2))
              else
                if (!x6) = true then
                  some (true)
                else
                  if (cop .eql x0 1) = true then
                    some (true)
                  else
                    some ((cop .eql x0 2))) := by kernel_rfl

/- multikernel/captype.SameObject -/
def E27 : Env := envG 10 [4] [] []
def A27 : List AP := [.agg [.int .i64, .int .i64, .int .i64, .int .i64, .int .i64, .int .i64, .bool], .agg [.int .i64, .int .i64, .int .i64, .int .i64, .int .i64, .int .i64, .bool]]
def R27 : List RSh := [.c (.bool)]
def T27 : STree := (.ret (.c (.bool (.and (.cmp .eql (.var 0) (.var 7)) (.and (.cmp .eql (.var 1) (.var 8)) (.and (.cmp .eql (.var 2) (.var 9)) (.and (.cmp .eql (.lit 0) (.lit 0)) (.and (.cmp .eql (.var 4) (.var 11)) (.and (.cmp .eql (.var 5) (.var 12)) (.and (.beq (.var 6) (.var 13)) (.lit true)))))))))) [.dead, .dead])
theorem eq27 : evFn Try.prog E27 Try.f27 (argsAt A27 0) 14 = T27 := by kernel_rfl
noncomputable def P27 : List (FuncId × Fun) := []
noncomputable def S27 : Fun := ⟨A27, R27, fun vs => T27.run Try.prog P27 A27 R27 (fun _ _ => none) (envL vs)⟩
theorem ok27 : S27.Ok Try.prog 27 := fun_ok (Φ := P27) (S := S27) mixed plain_ok Try.func27 (by kernel_rfl) (by kernel_rfl) (by kernel_rfl) eq27 trivial (fun _ => by kernel_rfl)
noncomputable def g27 (x0 : Int) (x1 : Int) (x2 : Int) (x3 : Int) (x4 : Int) (x5 : Int) (x6 : Bool) (x7 : Int) (x8 : Int) (x9 : Int) (x10 : Int) (x11 : Int) (x12 : Int) (x13 : Bool) : Option (Bool) := S27.g [.i x0, .i x1, .i x2, .i x3, .i x4, .i x5, .b x6, .i x7, .i x8, .i x9, .i x10, .i x11, .i x12, .b x13]
theorem g27_eq (x0 : Int) (x1 : Int) (x2 : Int) (x3 : Int) (x4 : Int) (x5 : Int) (x6 : Bool) (x7 : Int) (x8 : Int) (x9 : Int) (x10 : Int) (x11 : Int) (x12 : Int) (x13 : Bool) : g27 x0 x1 x2 x3 x4 x5 x6 x7 x8 x9 x10 x11 x12 x13 =
    (some (((cop .eql x0 x7) && ((cop .eql x1 x8) && ((cop .eql x2 x9) && ((cop .eql 0 0) && ((cop .eql x4 x11) && ((cop .eql x5 x12) && ((x6 == x13) && true))))))))) := by kernel_rfl

/- multikernel/multikernelref10.SameObject -/
def E35 : Env := envG 45 [4] [] []
def A35 : List AP := [.agg [.int .i64, .int .i64, .int .i64, .int .i64, .int .i64, .int .i64, .bool], .agg [.int .i64, .int .i64, .int .i64, .int .i64, .int .i64, .int .i64, .bool]]
def R35 : List RSh := [.c (.bool)]
def T35 : STree := (.branch (.cmp .eql (.var 0) (.var 7))
 (.branch (.cmp .eql (.var 1) (.var 8))
  (.branch (.cmp .eql (.var 2) (.var 9))
   (.branch (.cmp .eql (.var 4) (.var 11))
    (.branch (.cmp .eql (.var 5) (.var 12))
     (.ret (.c (.bool (.beq (.var 6) (.var 13)))) [.dead, .dead])
     (.ret (.c (.bool (.lit false))) [.dead, .dead]))
    (.ret (.c (.bool (.lit false))) [.dead, .dead]))
   (.ret (.c (.bool (.lit false))) [.dead, .dead]))
  (.ret (.c (.bool (.lit false))) [.dead, .dead]))
 (.ret (.c (.bool (.lit false))) [.dead, .dead]))
theorem eq35 : evFn Try.prog E35 Try.f35 (argsAt A35 0) 14 = T35 := by kernel_rfl
noncomputable def P35 : List (FuncId × Fun) := []
noncomputable def S35 : Fun := ⟨A35, R35, fun vs => T35.run Try.prog P35 A35 R35 (fun _ _ => none) (envL vs)⟩
theorem ok35 : S35.Ok Try.prog 35 := fun_ok (Φ := P35) (S := S35) mixed plain_ok Try.func35 (by kernel_rfl) (by kernel_rfl) (by kernel_rfl) eq35 trivial (fun _ => by kernel_rfl)
noncomputable def g35 (x0 : Int) (x1 : Int) (x2 : Int) (x3 : Int) (x4 : Int) (x5 : Int) (x6 : Bool) (x7 : Int) (x8 : Int) (x9 : Int) (x10 : Int) (x11 : Int) (x12 : Int) (x13 : Bool) : Option (Bool) := S35.g [.i x0, .i x1, .i x2, .i x3, .i x4, .i x5, .b x6, .i x7, .i x8, .i x9, .i x10, .i x11, .i x12, .b x13]
theorem g35_eq (x0 : Int) (x1 : Int) (x2 : Int) (x3 : Int) (x4 : Int) (x5 : Int) (x6 : Bool) (x7 : Int) (x8 : Int) (x9 : Int) (x10 : Int) (x11 : Int) (x12 : Int) (x13 : Bool) : g35 x0 x1 x2 x3 x4 x5 x6 x7 x8 x9 x10 x11 x12 x13 =
    (if (cop .eql x0 x7) = true then
      if (cop .eql x1 x8) = true then
        if (cop .eql x2 x9) = true then
          if (cop .eql x4 x11) = true then
            if (cop .eql x5 x12) = true then
              some ((x6 == x13))
            else
              some (false)
          else
            some (false)
        else
          some (false)
      else
        some (false)
    else
      some (false)) := by kernel_rfl

/- multikernel/memrange.End -/
def E95 : Env := envG 12 [2] [] []
def A95 : List AP := [.agg [.int .i64, .int .i64]]
def R95 : List RSh := [.c (.int .i64)]
def T95 : STree := (.call 71 [(.agg [(.int .i64 (.var 0)), (.int .i64 (.var 1))])] (.c (.bool (.var 2))) [.dead] 2 [.bool]
 (.branch (.not (.var 2))
 (.ret (.c (.int .i64 (.lit 0))) [.dead])
 (.req (.le (.lit 0) (.var 1))
  (.ret (.c (.int .i64 (.bin .add .i64 (.var 0) (.bin .shl .i64 (.lit 1) (.var 1))))) [.dead]))))
theorem eq95 : evFn Try.prog E95 Try.f95 (argsAt A95 0) 2 = T95 := by kernel_rfl
noncomputable def P95 : List (FuncId × Fun) := [(71, S71)]
noncomputable def S95 : Fun := ⟨A95, R95, fun vs => T95.run Try.prog P95 A95 R95 (fun _ _ => none) (envL vs)⟩
theorem ok95 : S95.Ok Try.prog 95 := fun_ok (Φ := P95) (S := S95) mixed plain_ok Try.func95 (by kernel_rfl) (by kernel_rfl) (by kernel_rfl) eq95 (And.intro ok71 trivial) (fun _ => by kernel_rfl)
noncomputable def g95 (x0 : Int) (x1 : Int) : Option (Int) := S95.g [.i x0, .i x1]
theorem g95_eq (x0 : Int) (x1 : Int) : g95 x0 x1 =
    ((g71 x0 x1).bind fun (r2 : Bool) =>
    if (!r2) = true then
      some (0)
    else
      reqK ((0 : Int) ≤ x1) <|
      some ((iop .add .i64 x0 (iop .shl .i64 1 x1)))) := by kernel_rfl

/- multikernel/memrange.Overlaps -/
def E73 : Env := envG 25 [4] [] []
def A73 : List AP := [.agg [.int .i64, .int .i64], .agg [.int .i64, .int .i64]]
def R73 : List RSh := [.c (.bool)]
def T73 : STree := (.call 71 [(.agg [(.int .i64 (.var 0)), (.int .i64 (.var 1))])] (.c (.bool (.var 4))) [.dead] 4 [.bool]
 (.branch (.var 4)
 (.call 71 [(.agg [(.int .i64 (.var 2)), (.int .i64 (.var 3))])] (.c (.bool (.var 5))) [.dead] 5 [.bool]
  (.branch (.var 5)
  (.call 95 [(.agg [(.int .i64 (.var 2)), (.int .i64 (.var 3))])] (.c (.int .i64 (.var 6))) [.dead] 6 [.int .i64]
   (.branch (.cmp .lss (.var 0) (.var 6))
   (.call 95 [(.agg [(.int .i64 (.var 0)), (.int .i64 (.var 1))])] (.c (.int .i64 (.var 7))) [.dead] 7 [.int .i64]
    (.ret (.c (.bool (.cmp .lss (.var 2) (.var 7)))) [.dead, .dead]))
   (.ret (.c (.bool (.lit false))) [.dead, .dead])))
  (.ret (.c (.bool (.lit false))) [.dead, .dead])))
 (.ret (.c (.bool (.lit false))) [.dead, .dead])))
theorem eq73 : evFn Try.prog E73 Try.f73 (argsAt A73 0) 4 = T73 := by kernel_rfl
noncomputable def P73 : List (FuncId × Fun) := [(71, S71), (95, S95)]
noncomputable def S73 : Fun := ⟨A73, R73, fun vs => T73.run Try.prog P73 A73 R73 (fun _ _ => none) (envL vs)⟩
theorem ok73 : S73.Ok Try.prog 73 := fun_ok (Φ := P73) (S := S73) mixed plain_ok Try.func73 (by kernel_rfl) (by kernel_rfl) (by kernel_rfl) eq73 (And.intro ok71 (And.intro ok95 trivial)) (fun _ => by kernel_rfl)
noncomputable def g73 (x0 : Int) (x1 : Int) (x2 : Int) (x3 : Int) : Option (Bool) := S73.g [.i x0, .i x1, .i x2, .i x3]
theorem g73_eq (x0 : Int) (x1 : Int) (x2 : Int) (x3 : Int) : g73 x0 x1 x2 x3 =
    ((g71 x0 x1).bind fun (r4 : Bool) =>
    if r4 = true then
      (g71 x2 x3).bind fun (r5 : Bool) =>
      if r5 = true then
        (g95 x2 x3).bind fun (r6 : Int) =>
        if (cop .lss x0 r6) = true then
          (g95 x0 x1).bind fun (r7 : Int) =>
          some ((cop .lss x2 r7))
        else
          some (false)
      else
        some (false)
    else
      some (false)) := by kernel_rfl

/- multikernel/memrange.Contains -/
def E74 : Env := envG 25 [4] [] []
def A74 : List AP := [.agg [.int .i64, .int .i64], .agg [.int .i64, .int .i64]]
def R74 : List RSh := [.c (.bool)]
def T74 : STree := (.call 71 [(.agg [(.int .i64 (.var 0)), (.int .i64 (.var 1))])] (.c (.bool (.var 4))) [.dead] 4 [.bool]
 (.branch (.var 4)
 (.call 71 [(.agg [(.int .i64 (.var 2)), (.int .i64 (.var 3))])] (.c (.bool (.var 5))) [.dead] 5 [.bool]
  (.branch (.var 5)
  (.branch (.cmp .leq (.var 0) (.var 2))
   (.call 95 [(.agg [(.int .i64 (.var 2)), (.int .i64 (.var 3))])] (.c (.int .i64 (.var 6))) [.dead] 6 [.int .i64]
    (.call 95 [(.agg [(.int .i64 (.var 0)), (.int .i64 (.var 1))])] (.c (.int .i64 (.var 7))) [.dead] 7 [.int .i64]
    (.ret (.c (.bool (.cmp .leq (.var 6) (.var 7)))) [.dead, .dead])))
   (.ret (.c (.bool (.lit false))) [.dead, .dead]))
  (.ret (.c (.bool (.lit false))) [.dead, .dead])))
 (.ret (.c (.bool (.lit false))) [.dead, .dead])))
theorem eq74 : evFn Try.prog E74 Try.f74 (argsAt A74 0) 4 = T74 := by kernel_rfl
noncomputable def P74 : List (FuncId × Fun) := [(71, S71), (95, S95)]
noncomputable def S74 : Fun := ⟨A74, R74, fun vs => T74.run Try.prog P74 A74 R74 (fun _ _ => none) (envL vs)⟩
theorem ok74 : S74.Ok Try.prog 74 := fun_ok (Φ := P74) (S := S74) mixed plain_ok Try.func74 (by kernel_rfl) (by kernel_rfl) (by kernel_rfl) eq74 (And.intro ok71 (And.intro ok95 trivial)) (fun _ => by kernel_rfl)
noncomputable def g74 (x0 : Int) (x1 : Int) (x2 : Int) (x3 : Int) : Option (Bool) := S74.g [.i x0, .i x1, .i x2, .i x3]
theorem g74_eq (x0 : Int) (x1 : Int) (x2 : Int) (x3 : Int) : g74 x0 x1 x2 x3 =
    ((g71 x0 x1).bind fun (r4 : Bool) =>
    if r4 = true then
      (g71 x2 x3).bind fun (r5 : Bool) =>
      if r5 = true then
        if (cop .leq x0 x2) = true then
          (g95 x2 x3).bind fun (r6 : Int) =>
          (g95 x0 x1).bind fun (r7 : Int) =>
          some ((cop .leq r6 r7))
        else
          some (false)
      else
        some (false)
    else
      some (false)) := by kernel_rfl

/- multikernel/captype.Coexist -/
def E30 : Env := envG 40 [4] [] []
def A30 : List AP := [.agg [.int .i64, .int .i64, .int .i64, .int .i64, .int .i64, .int .i64, .bool], .agg [.int .i64, .int .i64, .int .i64, .int .i64, .int .i64, .int .i64, .bool]]
def R30 : List RSh := [.c (.bool)]
def T30 : STree := (.call 32 [(.agg [(.int .i64 (.var 0)), (.int .i64 (.var 1)), (.int .i64 (.var 2)), (.int .i64 (.var 3)), (.int .i64 (.var 4)), (.int .i64 (.var 5)), (.bool (.var 6))])] (.agg [(.int .i64 (.var 14)), (.int .i64 (.var 15))]) [.dead] 14 [.int .i64, .int .i64]
 (.call 32 [(.agg [(.int .i64 (.var 7)), (.int .i64 (.var 8)), (.int .i64 (.var 9)), (.int .i64 (.var 10)), (.int .i64 (.var 11)), (.int .i64 (.var 12)), (.bool (.var 13))])] (.agg [(.int .i64 (.var 16)), (.int .i64 (.var 17))]) [.dead] 16 [.int .i64, .int .i64]
 (.call 73 [(.agg [(.int .i64 (.var 14)), (.int .i64 (.var 15))]), (.agg [(.int .i64 (.var 16)), (.int .i64 (.var 17))])] (.c (.bool (.var 18))) [.dead, .dead] 18 [.bool]
 (.branch (.not (.var 18))
 (.ret (.c (.bool (.lit true))) [.dead, .dead])
 (.call 27 [(.agg [(.int .i64 (.var 0)), (.int .i64 (.var 1)), (.int .i64 (.var 2)), (.int .i64 (.var 3)), (.int .i64 (.var 4)), (.int .i64 (.var 5)), (.bool (.var 6))]), (.agg [(.int .i64 (.var 7)), (.int .i64 (.var 8)), (.int .i64 (.var 9)), (.int .i64 (.var 10)), (.int .i64 (.var 11)), (.int .i64 (.var 12)), (.bool (.var 13))])] (.c (.bool (.var 19))) [.dead, .dead] 19 [.bool]
  (.branch (.var 19)
  (.ret (.c (.bool (.lit true))) [.dead, .dead])
  (.branch (.cmp .eql (.var 0) (.lit 1))
   (.call 74 [(.agg [(.int .i64 (.var 14)), (.int .i64 (.var 15))]), (.agg [(.int .i64 (.var 16)), (.int .i64 (.var 17))])] (.c (.bool (.var 20))) [.dead, .dead] 20 [.bool]
    (.branch (.var 20)
    (.ret (.c (.bool (.lit true))) [.dead, .dead])
    (.branch (.cmp .eql (.var 7) (.lit 1))
     (.call 74 [(.agg [(.int .i64 (.var 16)), (.int .i64 (.var 17))]), (.agg [(.int .i64 (.var 14)), (.int .i64 (.var 15))])] (.c (.bool (.var 21))) [.dead, .dead] 21 [.bool]
      (.ret (.c (.bool (.var 21))) [.dead, .dead]))
     (.ret (.c (.bool (.lit false))) [.dead, .dead]))))
   (.branch (.cmp .eql (.var 7) (.lit 1))
    (.call 74 [(.agg [(.int .i64 (.var 16)), (.int .i64 (.var 17))]), (.agg [(.int .i64 (.var 14)), (.int .i64 (.var 15))])] (.c (.bool (.var 20))) [.dead, .dead] 20 [.bool]
     (.ret (.c (.bool (.var 20))) [.dead, .dead]))
    (.ret (.c (.bool (.lit false))) [.dead, .dead])))))))))
theorem eq30 : evFn Try.prog E30 Try.f30 (argsAt A30 0) 14 = T30 := by kernel_rfl
noncomputable def P30 : List (FuncId × Fun) := [(32, S32), (73, S73), (27, S27), (74, S74)]
noncomputable def S30 : Fun := ⟨A30, R30, fun vs => T30.run Try.prog P30 A30 R30 (fun _ _ => none) (envL vs)⟩
theorem ok30 : S30.Ok Try.prog 30 := fun_ok (Φ := P30) (S := S30) mixed plain_ok Try.func30 (by kernel_rfl) (by kernel_rfl) (by kernel_rfl) eq30 (And.intro ok32 (And.intro ok73 (And.intro ok27 (And.intro ok74 trivial)))) (fun _ => by kernel_rfl)
noncomputable def g30 (x0 : Int) (x1 : Int) (x2 : Int) (x3 : Int) (x4 : Int) (x5 : Int) (x6 : Bool) (x7 : Int) (x8 : Int) (x9 : Int) (x10 : Int) (x11 : Int) (x12 : Int) (x13 : Bool) : Option (Bool) := S30.g [.i x0, .i x1, .i x2, .i x3, .i x4, .i x5, .b x6, .i x7, .i x8, .i x9, .i x10, .i x11, .i x12, .b x13]
theorem g30_eq (x0 : Int) (x1 : Int) (x2 : Int) (x3 : Int) (x4 : Int) (x5 : Int) (x6 : Bool) (x7 : Int) (x8 : Int) (x9 : Int) (x10 : Int) (x11 : Int) (x12 : Int) (x13 : Bool) : g30 x0 x1 x2 x3 x4 x5 x6 x7 x8 x9 x10 x11 x12 x13 =
    ((g32 x0 x1 x2 x3 x4 x5 x6).bind fun (r14 : Int × Int) =>
    (g32 x7 x8 x9 x10 x11 x12 x13).bind fun (r16 : Int × Int) =>
    (g73 r14.1 r14.2 r16.1 r16.2).bind fun (r18 : Bool) =>
    if (!r18) = true then
      some (true)
    else
      (g27 x0 x1 x2 x3 x4 x5 x6 x7 x8 x9 x10 x11 x12 x13).bind fun (r19 : Bool) =>
      if r19 = true then
        some (true)
      else
        if (cop .eql x0 1) = true then
          (g74 r14.1 r14.2 r16.1 r16.2).bind fun (r20 : Bool) =>
          if r20 = true then
            some (true)
          else
            if (cop .eql x7 1) = true then
              (g74 r16.1 r16.2 r14.1 r14.2).bind fun (r21 : Bool) =>
              some (r21)
            else
              some (false)
        else
          if (cop .eql x7 1) = true then
            (g74 r16.1 r16.2 r14.1 r14.2).bind fun (r20 : Bool) =>
            some (r20)
          else
            some (false)) := by kernel_rfl

/- multikernel/multikernelref10.End -/
def E76 : Env := envG 13 [2] [] []
def A76 : List AP := [.agg [.int .i64, .int .i64]]
def R76 : List RSh := [.c (.int .i64)]
def T76 : STree := (.call 75 [(.agg [(.int .i64 (.var 0)), (.int .i64 (.var 1))])] (.c (.bool (.var 2))) [.dead] 2 [.bool]
 (.branch (.not (.var 2))
 (.ret (.c (.int .i64 (.lit 0))) [.dead])
 (.req (.le (.lit 0) (.conv .u64 (.var 1)))
  (.ret (.c (.int .i64 (.bin .add .i64 (.var 0) (.bin .shl .i64 (.lit 1) (.conv .u64 (.var 1)))))) [.dead]))))
theorem eq76 : evFn Try.prog E76 Try.f76 (argsAt A76 0) 2 = T76 := by kernel_rfl
noncomputable def P76 : List (FuncId × Fun) := [(75, S75)]
noncomputable def S76 : Fun := ⟨A76, R76, fun vs => T76.run Try.prog P76 A76 R76 (fun _ _ => none) (envL vs)⟩
theorem ok76 : S76.Ok Try.prog 76 := fun_ok (Φ := P76) (S := S76) mixed plain_ok Try.func76 (by kernel_rfl) (by kernel_rfl) (by kernel_rfl) eq76 (And.intro ok75 trivial) (fun _ => by kernel_rfl)
noncomputable def g76 (x0 : Int) (x1 : Int) : Option (Int) := S76.g [.i x0, .i x1]
theorem g76_eq (x0 : Int) (x1 : Int) : g76 x0 x1 =
    ((g75 x0 x1).bind fun (r2 : Bool) =>
    if (!r2) = true then
      some (0)
    else
      reqK ((0 : Int) ≤ (IntKind.wrap .u64 x1)) <|
      some ((iop .add .i64 x0 (iop .shl .i64 1 (IntKind.wrap .u64 x1))))) := by kernel_rfl

/- multikernel/multikernelref10.Overlaps -/
def E31 : Env := envG 25 [4] [] []
def A31 : List AP := [.agg [.int .i64, .int .i64], .agg [.int .i64, .int .i64]]
def R31 : List RSh := [.c (.bool)]
def T31 : STree := (.call 75 [(.agg [(.int .i64 (.var 0)), (.int .i64 (.var 1))])] (.c (.bool (.var 4))) [.dead] 4 [.bool]
 (.branch (.var 4)
 (.call 75 [(.agg [(.int .i64 (.var 2)), (.int .i64 (.var 3))])] (.c (.bool (.var 5))) [.dead] 5 [.bool]
  (.branch (.var 5)
  (.call 76 [(.agg [(.int .i64 (.var 2)), (.int .i64 (.var 3))])] (.c (.int .i64 (.var 6))) [.dead] 6 [.int .i64]
   (.branch (.cmp .lss (.var 0) (.var 6))
   (.call 76 [(.agg [(.int .i64 (.var 0)), (.int .i64 (.var 1))])] (.c (.int .i64 (.var 7))) [.dead] 7 [.int .i64]
    (.ret (.c (.bool (.cmp .lss (.var 2) (.var 7)))) [.dead, .dead]))
   (.ret (.c (.bool (.lit false))) [.dead, .dead])))
  (.ret (.c (.bool (.lit false))) [.dead, .dead])))
 (.ret (.c (.bool (.lit false))) [.dead, .dead])))
theorem eq31 : evFn Try.prog E31 Try.f31 (argsAt A31 0) 4 = T31 := by kernel_rfl
noncomputable def P31 : List (FuncId × Fun) := [(75, S75), (76, S76)]
noncomputable def S31 : Fun := ⟨A31, R31, fun vs => T31.run Try.prog P31 A31 R31 (fun _ _ => none) (envL vs)⟩
theorem ok31 : S31.Ok Try.prog 31 := fun_ok (Φ := P31) (S := S31) mixed plain_ok Try.func31 (by kernel_rfl) (by kernel_rfl) (by kernel_rfl) eq31 (And.intro ok75 (And.intro ok76 trivial)) (fun _ => by kernel_rfl)
noncomputable def g31 (x0 : Int) (x1 : Int) (x2 : Int) (x3 : Int) : Option (Bool) := S31.g [.i x0, .i x1, .i x2, .i x3]
theorem g31_eq (x0 : Int) (x1 : Int) (x2 : Int) (x3 : Int) : g31 x0 x1 x2 x3 =
    ((g75 x0 x1).bind fun (r4 : Bool) =>
    if r4 = true then
      (g75 x2 x3).bind fun (r5 : Bool) =>
      if r5 = true then
        (g76 x2 x3).bind fun (r6 : Int) =>
        if (cop .lss x0 r6) = true then
          (g76 x0 x1).bind fun (r7 : Int) =>
          some ((cop .lss x2 r7))
        else
          some (false)
      else
        some (false)
    else
      some (false)) := by kernel_rfl

/- multikernel/multikernelref10.Contains -/
def E77 : Env := envG 25 [4] [] []
def A77 : List AP := [.agg [.int .i64, .int .i64], .agg [.int .i64, .int .i64]]
def R77 : List RSh := [.c (.bool)]
def T77 : STree := (.call 75 [(.agg [(.int .i64 (.var 0)), (.int .i64 (.var 1))])] (.c (.bool (.var 4))) [.dead] 4 [.bool]
 (.branch (.var 4)
 (.call 75 [(.agg [(.int .i64 (.var 2)), (.int .i64 (.var 3))])] (.c (.bool (.var 5))) [.dead] 5 [.bool]
  (.branch (.var 5)
  (.branch (.cmp .leq (.var 0) (.var 2))
   (.call 76 [(.agg [(.int .i64 (.var 2)), (.int .i64 (.var 3))])] (.c (.int .i64 (.var 6))) [.dead] 6 [.int .i64]
    (.call 76 [(.agg [(.int .i64 (.var 0)), (.int .i64 (.var 1))])] (.c (.int .i64 (.var 7))) [.dead] 7 [.int .i64]
    (.ret (.c (.bool (.cmp .leq (.var 6) (.var 7)))) [.dead, .dead])))
   (.ret (.c (.bool (.lit false))) [.dead, .dead]))
  (.ret (.c (.bool (.lit false))) [.dead, .dead])))
 (.ret (.c (.bool (.lit false))) [.dead, .dead])))
theorem eq77 : evFn Try.prog E77 Try.f77 (argsAt A77 0) 4 = T77 := by kernel_rfl
noncomputable def P77 : List (FuncId × Fun) := [(75, S75), (76, S76)]
noncomputable def S77 : Fun := ⟨A77, R77, fun vs => T77.run Try.prog P77 A77 R77 (fun _ _ => none) (envL vs)⟩
theorem ok77 : S77.Ok Try.prog 77 := fun_ok (Φ := P77) (S := S77) mixed plain_ok Try.func77 (by kernel_rfl) (by kernel_rfl) (by kernel_rfl) eq77 (And.intro ok75 (And.intro ok76 trivial)) (fun _ => by kernel_rfl)
noncomputable def g77 (x0 : Int) (x1 : Int) (x2 : Int) (x3 : Int) : Option (Bool) := S77.g [.i x0, .i x1, .i x2, .i x3]
theorem g77_eq (x0 : Int) (x1 : Int) (x2 : Int) (x3 : Int) : g77 x0 x1 x2 x3 =
    ((g75 x0 x1).bind fun (r4 : Bool) =>
    if r4 = true then
      (g75 x2 x3).bind fun (r5 : Bool) =>
      if r5 = true then
        if (cop .leq x0 x2) = true then
          (g76 x2 x3).bind fun (r6 : Int) =>
          (g76 x0 x1).bind fun (r7 : Int) =>
          some ((cop .leq r6 r7))
        else
          some (false)
      else
        some (false)
    else
      some (false)) := by kernel_rfl

/- multikernel/multikernelref10.Coexist -/
def E36 : Env := envG 38 [4] [] []
def A36 : List AP := [.agg [.int .i64, .int .i64, .int .i64, .int .i64, .int .i64, .int .i64, .bool], .agg [.int .i64, .int .i64, .int .i64, .int .i64, .int .i64, .int .i64, .bool]]
def R36 : List RSh := [.c (.bool)]
def T36 : STree := (.call 34 [(.agg [(.int .i64 (.var 0)), (.int .i64 (.var 1)), (.int .i64 (.var 2)), (.int .i64 (.var 3)), (.int .i64 (.var 4)), (.int .i64 (.var 5)), (.bool (.var 6))])] (.agg [(.int .i64 (.var 14)), (.int .i64 (.var 15))]) [.dead] 14 [.int .i64, .int .i64]
 (.call 34 [(.agg [(.int .i64 (.var 7)), (.int .i64 (.var 8)), (.int .i64 (.var 9)), (.int .i64 (.var 10)), (.int .i64 (.var 11)), (.int .i64 (.var 12)), (.bool (.var 13))])] (.agg [(.int .i64 (.var 16)), (.int .i64 (.var 17))]) [.dead] 16 [.int .i64, .int .i64]
 (.call 31 [(.agg [(.int .i64 (.var 14)), (.int .i64 (.var 15))]), (.agg [(.int .i64 (.var 16)), (.int .i64 (.var 17))])] (.c (.bool (.var 18))) [.dead, .dead] 18 [.bool]
 (.branch (.not (.var 18))
 (.ret (.c (.bool (.lit true))) [.dead, .dead])
 (.call 35 [(.agg [(.int .i64 (.var 0)), (.int .i64 (.var 1)), (.int .i64 (.var 2)), (.int .i64 (.var 3)), (.int .i64 (.var 4)), (.int .i64 (.var 5)), (.bool (.var 6))]), (.agg [(.int .i64 (.var 7)), (.int .i64 (.var 8)), (.int .i64 (.var 9)), (.int .i64 (.var 10)), (.int .i64 (.var 11)), (.int .i64 (.var 12)), (.bool (.var 13))])] (.c (.bool (.var 19))) [.dead, .dead] 19 [.bool]
  (.branch (.var 19)
  (.ret (.c (.bool (.lit true))) [.dead, .dead])
  (.branch (.cmp .eql (.var 0) (.lit 1))
   (.call 34 [(.agg [(.int .i64 (.var 0)), (.int .i64 (.var 1)), (.int .i64 (.var 2)), (.int .i64 (.var 3)), (.int .i64 (.var 4)), (.int .i64 (.var 5)), (.bool (.var 6))])] (.agg [(.int .i64 (.var 20)), (.int .i64 (.var 21))]) [.dead] 20 [.int .i64, .int .i64]
    (.call 34 [(.agg [(.int .i64 (.var 7)), (.int .i64 (.var 8)), (.int .i64 (.var 9)), (.int .i64 (.var 10)), (.int .i64 (.var 11)), (.int .i64 (.var 12)), (.bool (.var 13))])] (.agg [(.int .i64 (.var 22)), (.int .i64 (.var 23))]) [.dead] 22 [.int .i64, .int .i64]
    (.call 77 [(.agg [(.int .i64 (.var 20)), (.int .i64 (.var 21))]), (.agg [(.int .i64 (.var 22)), (.int .i64 (.var 23))])] (.c (.bool (.var 24))) [.dead, .dead] 24 [.bool]
    (.branch (.var 24)
    (.ret (.c (.bool (.lit true))) [.dead, .dead])
    (.branch (.cmp .eql (.var 7) (.lit 1))
     (.call 34 [(.agg [(.int .i64 (.var 7)), (.int .i64 (.var 8)), (.int .i64 (.var 9)), (.int .i64 (.var 10)), (.int .i64 (.var 11)), (.int .i64 (.var 12)), (.bool (.var 13))])] (.agg [(.int .i64 (.var 25)), (.int .i64 (.var 26))]) [.dead] 25 [.int .i64, .int .i64]
      (.call 34 [(.agg [(.int .i64 (.var 0)), (.int .i64 (.var 1)), (.int .i64 (.var 2)), (.int .i64 (.var 3)), (.int .i64 (.var 4)), (.int .i64 (.var 5)), (.bool (.var 6))])] (.agg [(.int .i64 (.var 27)), (.int .i64 (.var 28))]) [.dead] 27 [.int .i64, .int .i64]
      (.call 77 [(.agg [(.int .i64 (.var 25)), (.int .i64 (.var 26))]), (.agg [(.int .i64 (.var 27)), (.int .i64 (.var 28))])] (.c (.bool (.var 29))) [.dead, .dead] 29 [.bool]
      (.ret (.c (.bool (.var 29))) [.dead, .dead]))))
     (.ret (.c (.bool (.lit false))) [.dead, .dead]))))))
   (.branch (.cmp .eql (.var 7) (.lit 1))
    (.call 34 [(.agg [(.int .i64 (.var 7)), (.int .i64 (.var 8)), (.int .i64 (.var 9)), (.int .i64 (.var 10)), (.int .i64 (.var 11)), (.int .i64 (.var 12)), (.bool (.var 13))])] (.agg [(.int .i64 (.var 20)), (.int .i64 (.var 21))]) [.dead] 20 [.int .i64, .int .i64]
     (.call 34 [(.agg [(.int .i64 (.var 0)), (.int .i64 (.var 1)), (.int .i64 (.var 2)), (.int .i64 (.var 3)), (.int .i64 (.var 4)), (.int .i64 (.var 5)), (.bool (.var 6))])] (.agg [(.int .i64 (.var 22)), (.int .i64 (.var 23))]) [.dead] 22 [.int .i64, .int .i64]
     (.call 77 [(.agg [(.int .i64 (.var 20)), (.int .i64 (.var 21))]), (.agg [(.int .i64 (.var 22)), (.int .i64 (.var 23))])] (.c (.bool (.var 24))) [.dead, .dead] 24 [.bool]
     (.ret (.c (.bool (.var 24))) [.dead, .dead]))))
    (.ret (.c (.bool (.lit false))) [.dead, .dead])))))))))
theorem eq36 : evFn Try.prog E36 Try.f36 (argsAt A36 0) 14 = T36 := by kernel_rfl
noncomputable def P36 : List (FuncId × Fun) := [(34, S34), (31, S31), (35, S35), (77, S77)]
noncomputable def S36 : Fun := ⟨A36, R36, fun vs => T36.run Try.prog P36 A36 R36 (fun _ _ => none) (envL vs)⟩
theorem ok36 : S36.Ok Try.prog 36 := fun_ok (Φ := P36) (S := S36) mixed plain_ok Try.func36 (by kernel_rfl) (by kernel_rfl) (by kernel_rfl) eq36 (And.intro ok34 (And.intro ok31 (And.intro ok35 (And.intro ok77 trivial)))) (fun _ => by kernel_rfl)
noncomputable def g36 (x0 : Int) (x1 : Int) (x2 : Int) (x3 : Int) (x4 : Int) (x5 : Int) (x6 : Bool) (x7 : Int) (x8 : Int) (x9 : Int) (x10 : Int) (x11 : Int) (x12 : Int) (x13 : Bool) : Option (Bool) := S36.g [.i x0, .i x1, .i x2, .i x3, .i x4, .i x5, .b x6, .i x7, .i x8, .i x9, .i x10, .i x11, .i x12, .b x13]
theorem g36_eq (x0 : Int) (x1 : Int) (x2 : Int) (x3 : Int) (x4 : Int) (x5 : Int) (x6 : Bool) (x7 : Int) (x8 : Int) (x9 : Int) (x10 : Int) (x11 : Int) (x12 : Int) (x13 : Bool) : g36 x0 x1 x2 x3 x4 x5 x6 x7 x8 x9 x10 x11 x12 x13 =
    ((g34 x0 x1 x2 x3 x4 x5 x6).bind fun (r14 : Int × Int) =>
    (g34 x7 x8 x9 x10 x11 x12 x13).bind fun (r16 : Int × Int) =>
    (g31 r14.1 r14.2 r16.1 r16.2).bind fun (r18 : Bool) =>
    if (!r18) = true then
      some (true)
    else
      (g35 x0 x1 x2 x3 x4 x5 x6 x7 x8 x9 x10 x11 x12 x13).bind fun (r19 : Bool) =>
      if r19 = true then
        some (true)
      else
        if (cop .eql x0 1) = true then
          (g34 x0 x1 x2 x3 x4 x5 x6).bind fun (r20 : Int × Int) =>
          (g34 x7 x8 x9 x10 x11 x12 x13).bind fun (r22 : Int × Int) =>
          (g77 r20.1 r20.2 r22.1 r22.2).bind fun (r24 : Bool) =>
          if r24 = true then
            some (true)
          else
            if (cop .eql x7 1) = true then
              (g34 x7 x8 x9 x10 x11 x12 x13).bind fun (r25 : Int × Int) =>
              (g34 x0 x1 x2 x3 x4 x5 x6).bind fun (r27 : Int × Int) =>
              (g77 r25.1 r25.2 r27.1 r27.2).bind fun (r29 : Bool) =>
              some (r29)
            else
              some (false)
        else
          if (cop .eql x7 1) = true then
            (g34 x7 x8 x9 x10 x11 x12 x13).bind fun (r20 : Int × Int) =>
            (g34 x0 x1 x2 x3 x4 x5 x6).bind fun (r22 : Int × Int) =>
            (g77 r20.1 r20.2 r22.1 r22.2).bind fun (r24 : Bool) =>
            some (r24)
          else
            some (false)) := by kernel_rfl

/- multikernel/captype.Attenuate -/
def E26 : Env := envG 11 [4] [] []
def A26 : List AP := [.agg [.int .i64, .int .i64, .int .i64, .int .i64, .int .i64, .int .i64, .bool], .c (.int .i64)]
def R26 : List RSh := [.agg [.int .i64, .int .i64, .int .i64, .int .i64, .int .i64, .int .i64, .bool]]
def T26 : STree := (.ret (.agg [(.int .i64 (.var 0)), (.int .i64 (.var 1)), (.int .i64 (.var 2)), (.int .i64 (.bin .and .i64 (.var 3) (.var 7))), (.int .i64 (.var 4)), (.int .i64 (.var 5)), (.bool (.var 6))]) [.dead, .dead])
theorem eq26 : evFn Try.prog E26 Try.f26 (argsAt A26 0) 8 = T26 := by kernel_rfl
noncomputable def P26 : List (FuncId × Fun) := []
noncomputable def S26 : Fun := ⟨A26, R26, fun vs => T26.run Try.prog P26 A26 R26 (fun _ _ => none) (envL vs)⟩
theorem ok26 : S26.Ok Try.prog 26 := fun_ok (Φ := P26) (S := S26) mixed plain_ok Try.func26 (by kernel_rfl) (by kernel_rfl) (by kernel_rfl) eq26 trivial (fun _ => by kernel_rfl)
noncomputable def g26 (x0 : Int) (x1 : Int) (x2 : Int) (x3 : Int) (x4 : Int) (x5 : Int) (x6 : Bool) (x7 : Int) : Option (Int × Int × Int × Int × Int × Int × Bool) := S26.g [.i x0, .i x1, .i x2, .i x3, .i x4, .i x5, .b x6, .i x7]
theorem g26_eq (x0 : Int) (x1 : Int) (x2 : Int) (x3 : Int) (x4 : Int) (x5 : Int) (x6 : Bool) (x7 : Int) : g26 x0 x1 x2 x3 x4 x5 x6 x7 =
    (some (x0, x1, x2, (iop .and .i64 x3 x7), x4, x5, x6)) := by kernel_rfl

/- multikernel/multikernelref10.Attenuate -/
def E37 : Env := envG 11 [4] [] []
def A37 : List AP := [.agg [.int .i64, .int .i64, .int .i64, .int .i64, .int .i64, .int .i64, .bool], .c (.int .i64)]
def R37 : List RSh := [.agg [.int .i64, .int .i64, .int .i64, .int .i64, .int .i64, .int .i64, .bool]]
def T37 : STree := (.ret (.agg [(.int .i64 (.var 0)), (.int .i64 (.var 1)), (.int .i64 (.var 2)), (.int .i64 (.bin .and .i64 (.var 3) (.var 7))), (.int .i64 (.var 4)), (.int .i64 (.var 5)), (.bool (.var 6))]) [.dead, .dead])
theorem eq37 : evFn Try.prog E37 Try.f37 (argsAt A37 0) 8 = T37 := by kernel_rfl
noncomputable def P37 : List (FuncId × Fun) := []
noncomputable def S37 : Fun := ⟨A37, R37, fun vs => T37.run Try.prog P37 A37 R37 (fun _ _ => none) (envL vs)⟩
theorem ok37 : S37.Ok Try.prog 37 := fun_ok (Φ := P37) (S := S37) mixed plain_ok Try.func37 (by kernel_rfl) (by kernel_rfl) (by kernel_rfl) eq37 trivial (fun _ => by kernel_rfl)
noncomputable def g37 (x0 : Int) (x1 : Int) (x2 : Int) (x3 : Int) (x4 : Int) (x5 : Int) (x6 : Bool) (x7 : Int) : Option (Int × Int × Int × Int × Int × Int × Bool) := S37.g [.i x0, .i x1, .i x2, .i x3, .i x4, .i x5, .b x6, .i x7]
theorem g37_eq (x0 : Int) (x1 : Int) (x2 : Int) (x3 : Int) (x4 : Int) (x5 : Int) (x6 : Bool) (x7 : Int) : g37 x0 x1 x2 x3 x4 x5 x6 x7 =
    (some (x0, x1, x2, (iop .and .i64 x3 x7), x4, x5, x6)) := by kernel_rfl

/- multikernel/captype.Retype -/
def E20 : Env := envG 118 [14, 15] [(20, [(1, .c (.int .i64)), (2, .c (.int .i64)), (3, .c (.int .i64)), (4, .c (.int .i64)), (5, .c (.int .i64)), (7, .box [.int .i64, .int .i64, .int .i64, .int .i64, .int .i64, .int .i64, .bool]), (16, .c (.int .i64)), (17, .c (.own 23)), (92, .c (.int .i64)), (93, .c (.int .i64))])] []
def A20 : List AP := [.agg [.int .i64, .int .i64, .int .i64, .int .i64, .int .i64, .int .i64, .bool], .c (.int .i64), .c (.int .i64), .c (.int .i64), .c (.int .i64), .c (.int .i64), .c (.int .i64)]
def R20 : List RSh := [.c (.own 23), .c (.int .i64)]
def T20L0 : STree := (.branch (.cmp .lss (.var 15) (.var 14))
 (.req (.room (.var 13) (.snoc .nil (.cons (.int .i64 (.var 0)) (.cons (.int .i64 (.bin .add .i64 (.bin .add .i64 (.var 6) (.var 4)) (.bin .mul .i64 (.var 15) (.var 12)))) (.cons (.int .i64 (.var 1)) (.cons (.int .i64 (.var 8)) (.cons (.int .i64 (.var 3)) (.cons (.int .i64 (.var 2)) (.cons (.bool (.var 11)) .nil)))))))) 56)
  (.again 0 [(.i (.var 0)), (.i (.var 1)), (.i (.var 2)), (.i (.var 3)), (.i (.var 4)), (.i (.var 5)), (.i (.var 6)), (.i (.var 7)), (.i (.var 8)), (.i (.var 9)), (.i (.var 10)), (.b (.var 11)), (.i (.var 12)), (.l (.app (.var 13) (.snoc .nil (.cons (.int .i64 (.var 0)) (.cons (.int .i64 (.bin .add .i64 (.bin .add .i64 (.var 6) (.var 4)) (.bin .mul .i64 (.var 15) (.var 12)))) (.cons (.int .i64 (.var 1)) (.cons (.int .i64 (.var 8)) (.cons (.int .i64 (.var 3)) (.cons (.int .i64 (.var 2)) (.cons (.bool (.var 11)) .nil)))))))))), (.i (.var 14)), (.i (.bin .add .i64 (.var 15) (.lit 1)))]))
 (.ret (.tuple [(.own 23 (.var 13)), (.c (.int .i64 (.lit 0)))]) [.dead, .dead, .dead, .dead, .dead, .dead, .dead]))
def T20 : STree := (.call 28 [(.agg [(.int .i64 (.var 0)), (.int .i64 (.var 1)), (.int .i64 (.var 2)), (.int .i64 (.var 3)), (.int .i64 (.var 4)), (.int .i64 (.var 5)), (.bool (.var 6))])] (.c (.bool (.var 13))) [.dead] 13 [.bool]
 (.branch (.not (.var 13))
 (.ret (.tuple [(.own 23 .nil), (.c (.int .i64 (.lit 5)))]) [.dead, .dead, .dead, .dead, .dead, .dead, .dead])
 (.branch (.cmp .neq (.var 0) (.lit 1))
  (.ret (.tuple [(.own 23 .nil), (.c (.int .i64 (.lit 5)))]) [.dead, .dead, .dead, .dead, .dead, .dead, .dead])
  (.branch (.cmp .eql (.bin .and .i64 (.var 3) (.lit 2)) (.lit 0))
   (.ret (.tuple [(.own 23 .nil), (.c (.int .i64 (.lit 8)))]) [.dead, .dead, .dead, .dead, .dead, .dead, .dead])
   (.call 67 [(.c (.int .i64 (.var 7))), (.c (.int .i64 (.var 8)))] (.c (.bool (.var 14))) [.dead, .dead] 14 [.bool]
    (.branch (.not (.var 14))
    (.ret (.tuple [(.own 23 .nil), (.c (.int .i64 (.lit 1)))]) [.dead, .dead, .dead, .dead, .dead, .dead, .dead])
    (.branch (.cmp .eql (.var 7) (.lit 3))
     (.call 68 [(.c (.int .i64 (.var 10))), (.c (.int .i64 (.var 9)))] (.c (.bool (.var 15))) [.dead, .dead] 15 [.bool]
      (.branch (.not (.var 15))
      (.ret (.tuple [(.own 23 .nil), (.c (.int .i64 (.lit 1)))]) [.dead, .dead, .dead, .dead, .dead, .dead, .dead])
      (.branch (.cmp .lss (.var 12) (.lit 1))
       (.ret (.tuple [(.own 23 .nil), (.c (.int .i64 (.lit 1)))]) [.dead, .dead, .dead, .dead, .dead, .dead, .dead])
       (.branch (.cmp .gtr (.var 12) (.lit 8))
        (.ret (.tuple [(.own 23 .nil), (.c (.int .i64 (.lit 1)))]) [.dead, .dead, .dead, .dead, .dead, .dead, .dead])
        (.branch (.cmp .lss (.var 11) (.lit 0))
         (.ret (.tuple [(.own 23 .nil), (.c (.int .i64 (.lit 1)))]) [.dead, .dead, .dead, .dead, .dead, .dead, .dead])
         (.branch (.var 6)
          (.branch (.cmp .neq (.var 7) (.lit 1))
           (.branch (.cmp .neq (.var 7) (.lit 2))
            (.ret (.tuple [(.own 23 .nil), (.c (.int .i64 (.lit 5)))]) [.dead, .dead, .dead, .dead, .dead, .dead, .dead])
            (.req (.le (.lit 0) (.var 8))
             (.req (.ne0 (.bin .shl .i64 (.lit 1) (.var 8)))
             (.branch (.cmp .neq (.bin .rem .i64 (.var 11) (.bin .shl .i64 (.lit 1) (.var 8))) (.lit 0))
             (.ret (.tuple [(.own 23 .nil), (.c (.int .i64 (.lit 6)))]) [.dead, .dead, .dead, .dead, .dead, .dead, .dead])
             (.req (.le (.lit 0) (.var 2))
              (.branch (.cmp .gtr (.var 11) (.bin .sub .i64 (.bin .shl .i64 (.lit 1) (.var 2)) (.bin .mul .i64 (.var 12) (.bin .shl .i64 (.lit 1) (.var 8)))))
              (.ret (.tuple [(.own 23 .nil), (.c (.int .i64 (.lit 6)))]) [.dead, .dead, .dead, .dead, .dead, .dead, .dead])
              (.branch (.cmp .eql (.var 7) (.lit 1))
               (.branch (.cmp .geq (.var 8) (.var 2))
                (.ret (.tuple [(.own 23 .nil), (.c (.int .i64 (.lit 6)))]) [.dead, .dead, .dead, .dead, .dead, .dead, .dead])
                (.branch (.cmp .neq (.var 7) (.lit 3))
                 (.loop 0 [(.i (.var 7)), (.i (.var 8)), (.i (.lit 0)), (.i (.lit 0)), (.i (.var 11)), (.i (.var 0)), (.i (.var 1)), (.i (.var 2)), (.i (.var 3)), (.i (.var 4)), (.i (.var 5)), (.b (.var 6)), (.i (.bin .shl .i64 (.lit 1) (.var 8))), (.l .nil), (.i (.var 12)), (.i (.lit 0))] 0 T20L0)
                 (.loop 0 [(.i (.var 7)), (.i (.var 8)), (.i (.var 9)), (.i (.var 10)), (.i (.var 11)), (.i (.var 0)), (.i (.var 1)), (.i (.var 2)), (.i (.var 3)), (.i (.var 4)), (.i (.var 5)), (.b (.var 6)), (.i (.bin .shl .i64 (.lit 1) (.var 8))), (.l .nil), (.i (.var 12)), (.i (.lit 0))] 0 T20L0)))
               (.branch (.cmp .neq (.var 7) (.lit 3))
                (.loop 0 [(.i (.var 7)), (.i (.var 8)), (.i (.lit 0)), (.i (.lit 0)), (.i (.var 11)), (.i (.var 0)), (.i (.var 1)), (.i (.var 2)), (.i (.var 3)), (.i (.var 4)), (.i (.var 5)), (.b (.var 6)), (.i (.bin .shl .i64 (.lit 1) (.var 8))), (.l .nil), (.i (.var 12)), (.i (.lit 0))] 0 T20L0)
                (.loop 0 [(.i (.var 7)), (.i (.var 8)), (.i (.var 9)), (.i (.var 10)), (.i (.var 11)), (.i (.var 0)), (.i (.var 1)), (.i (.var 2)), (.i (.var 3)), (.i (.var 4)), (.i (.var 5)), (.b (.var 6)), (.i (.bin .shl .i64 (.lit 1) (.var 8))), (.l .nil), (.i (.var 12)), (.i (.lit 0))] 0 T20L0)))))))))
           (.req (.le (.lit 0) (.var 8))
            (.req (.ne0 (.bin .shl .i64 (.lit 1) (.var 8)))
            (.branch (.cmp .neq (.bin .rem .i64 (.var 11) (.bin .shl .i64 (.lit 1) (.var 8))) (.lit 0))
            (.ret (.tuple [(.own 23 .nil), (.c (.int .i64 (.lit 6)))]) [.dead, .dead, .dead, .dead, .dead, .dead, .dead])
            (.req (.le (.lit 0) (.var 2))
             (.branch (.cmp .gtr (.var 11) (.bin .sub .i64 (.bin .shl .i64 (.lit 1) (.var 2)) (.bin .mul .i64 (.var 12) (.bin .shl .i64 (.lit 1) (.var 8)))))
             (.ret (.tuple [(.own 23 .nil), (.c (.int .i64 (.lit 6)))]) [.dead, .dead, .dead, .dead, .dead, .dead, .dead])
             (.branch (.cmp .eql (.var 7) (.lit 1))
              (.branch (.cmp .geq (.var 8) (.var 2))
               (.ret (.tuple [(.own 23 .nil), (.c (.int .i64 (.lit 6)))]) [.dead, .dead, .dead, .dead, .dead, .dead, .dead])
               (.branch (.cmp .neq (.var 7) (.lit 3))
                (.loop 0 [(.i (.var 7)), (.i (.var 8)), (.i (.lit 0)), (.i (.lit 0)), (.i (.var 11)), (.i (.var 0)), (.i (.var 1)), (.i (.var 2)), (.i (.var 3)), (.i (.var 4)), (.i (.var 5)), (.b (.var 6)), (.i (.bin .shl .i64 (.lit 1) (.var 8))), (.l .nil), (.i (.var 12)), (.i (.lit 0))] 0 T20L0)
                (.loop 0 [(.i (.var 7)), (.i (.var 8)), (.i (.var 9)), (.i (.var 10)), (.i (.var 11)), (.i (.var 0)), (.i (.var 1)), (.i (.var 2)), (.i (.var 3)), (.i (.var 4)), (.i (.var 5)), (.b (.var 6)), (.i (.bin .shl .i64 (.lit 1) (.var 8))), (.l .nil), (.i (.var 12)), (.i (.lit 0))] 0 T20L0)))
              (.branch (.cmp .neq (.var 7) (.lit 3))
               (.loop 0 [(.i (.var 7)), (.i (.var 8)), (.i (.lit 0)), (.i (.lit 0)), (.i (.var 11)), (.i (.var 0)), (.i (.var 1)), (.i (.var 2)), (.i (.var 3)), (.i (.var 4)), (.i (.var 5)), (.b (.var 6)), (.i (.bin .shl .i64 (.lit 1) (.var 8))), (.l .nil), (.i (.var 12)), (.i (.lit 0))] 0 T20L0)
               (.loop 0 [(.i (.var 7)), (.i (.var 8)), (.i (.var 9)), (.i (.var 10)), (.i (.var 11)), (.i (.var 0)), (.i (.var 1)), (.i (.var 2)), (.i (.var 3)), (.i (.var 4)), (.i (.var 5)), (.b (.var 6)), (.i (.bin .shl .i64 (.lit 1) (.var 8))), (.l .nil), (.i (.var 12)), (.i (.lit 0))] 0 T20L0)))))))))
          (.req (.le (.lit 0) (.var 8))
           (.req (.ne0 (.bin .shl .i64 (.lit 1) (.var 8)))
           (.branch (.cmp .neq (.bin .rem .i64 (.var 11) (.bin .shl .i64 (.lit 1) (.var 8))) (.lit 0))
           (.ret (.tuple [(.own 23 .nil), (.c (.int .i64 (.lit 6)))]) [.dead, .dead, .dead, .dead, .dead, .dead, .dead])
           (.req (.le (.lit 0) (.var 2))
            (.branch (.cmp .gtr (.var 11) (.bin .sub .i64 (.bin .shl .i64 (.lit 1) (.var 2)) (.bin .mul .i64 (.var 12) (.bin .shl .i64 (.lit 1) (.var 8)))))
            (.ret (.tuple [(.own 23 .nil), (.c (.int .i64 (.lit 6)))]) [.dead, .dead, .dead, .dead, .dead, .dead, .dead])
            (.branch (.cmp .eql (.var 7) (.lit 1))
             (.branch (.cmp .geq (.var 8) (.var 2))
              (.ret (.tuple [(.own 23 .nil), (.c (.int .i64 (.lit 6)))]) [.dead, .dead, .dead, .dead, .dead, .dead, .dead])
              (.branch (.cmp .neq (.var 7) (.lit 3))
               (.loop 0 [(.i (.var 7)), (.i (.var 8)), (.i (.lit 0)), (.i (.lit 0)), (.i (.var 11)), (.i (.var 0)), (.i (.var 1)), (.i (.var 2)), (.i (.var 3)), (.i (.var 4)), (.i (.var 5)), (.b (.var 6)), (.i (.bin .shl .i64 (.lit 1) (.var 8))), (.l .nil), (.i (.var 12)), (.i (.lit 0))] 0 T20L0)
               (.loop 0 [(.i (.var 7)), (.i (.var 8)), (.i (.var 9)), (.i (.var 10)), (.i (.var 11)), (.i (.var 0)), (.i (.var 1)), (.i (.var 2)), (.i (.var 3)), (.i (.var 4)), (.i (.var 5)), (.b (.var 6)), (.i (.bin .shl .i64 (.lit 1) (.var 8))), (.l .nil), (.i (.var 12)), (.i (.lit 0))] 0 T20L0)))
             (.branch (.cmp .neq (.var 7) (.lit 3))
              (.loop 0 [(.i (.var 7)), (.i (.var 8)), (.i (.lit 0)), (.i (.lit 0)), (.i (.var 11)), (.i (.var 0)), (.i (.var 1)), (.i (.var 2)), (.i (.var 3)), (.i (.var 4)), (.i (.var 5)), (.b (.var 6)), (.i (.bin .shl .i64 (.lit 1) (.var 8))), (.l .nil), (.i (.var 12)), (.i (.lit 0))] 0 T20L0)
              (.loop 0 [(.i (.var 7)), (.i (.var 8)), (.i (.var 9)), (.i (.var 10)), (.i (.var 11)), (.i (.var 0)), (.i (.var 1)), (.i (.var 2)), (.i (.var 3)), (.i (.var 4)), (.i (.var 5)), (.b (.var 6)), (.i (.bin .shl .i64 (.lit 1) (.var 8))), (.l .nil), (.i (.var 12)), (.i (.lit 0))] 0 T20L0))))))))))))))
     (.branch (.cmp .lss (.var 12) (.lit 1))
      (.ret (.tuple [(.own 23 .nil), (.c (.int .i64 (.lit 1)))]) [.dead, .dead, .dead, .dead, .dead, .dead, .dead])
      (.branch (.cmp .gtr (.var 12) (.lit 8))
       (.ret (.tuple [(.own 23 .nil), (.c (.int .i64 (.lit 1)))]) [.dead, .dead, .dead, .dead, .dead, .dead, .dead])
       (.branch (.cmp .lss (.var 11) (.lit 0))
        (.ret (.tuple [(.own 23 .nil), (.c (.int .i64 (.lit 1)))]) [.dead, .dead, .dead, .dead, .dead, .dead, .dead])
        (.branch (.var 6)
         (.branch (.cmp .neq (.var 7) (.lit 1))
          (.branch (.cmp .neq (.var 7) (.lit 2))
           (.ret (.tuple [(.own 23 .nil), (.c (.int .i64 (.lit 5)))]) [.dead, .dead, .dead, .dead, .dead, .dead, .dead])
           (.req (.le (.lit 0) (.var 8))
            (.req (.ne0 (.bin .shl .i64 (.lit 1) (.var 8)))
            (.branch (.cmp .neq (.bin .rem .i64 (.var 11) (.bin .shl .i64 (.lit 1) (.var 8))) (.lit 0))
            (.ret (.tuple [(.own 23 .nil), (.c (.int .i64 (.lit 6)))]) [.dead, .dead, .dead, .dead, .dead, .dead, .dead])
            (.req (.le (.lit 0) (.var 2))
             (.branch (.cmp .gtr (.var 11) (.bin .sub .i64 (.bin .shl .i64 (.lit 1) (.var 2)) (.bin .mul .i64 (.var 12) (.bin .shl .i64 (.lit 1) (.var 8)))))
             (.ret (.tuple [(.own 23 .nil), (.c (.int .i64 (.lit 6)))]) [.dead, .dead, .dead, .dead, .dead, .dead, .dead])
             (.branch (.cmp .eql (.var 7) (.lit 1))
              (.branch (.cmp .geq (.var 8) (.var 2))
               (.ret (.tuple [(.own 23 .nil), (.c (.int .i64 (.lit 6)))]) [.dead, .dead, .dead, .dead, .dead, .dead, .dead])
               (.branch (.cmp .neq (.var 7) (.lit 3))
                (.loop 0 [(.i (.var 7)), (.i (.var 8)), (.i (.lit 0)), (.i (.lit 0)), (.i (.var 11)), (.i (.var 0)), (.i (.var 1)), (.i (.var 2)), (.i (.var 3)), (.i (.var 4)), (.i (.var 5)), (.b (.var 6)), (.i (.bin .shl .i64 (.lit 1) (.var 8))), (.l .nil), (.i (.var 12)), (.i (.lit 0))] 0 T20L0)
                (.loop 0 [(.i (.var 7)), (.i (.var 8)), (.i (.var 9)), (.i (.var 10)), (.i (.var 11)), (.i (.var 0)), (.i (.var 1)), (.i (.var 2)), (.i (.var 3)), (.i (.var 4)), (.i (.var 5)), (.b (.var 6)), (.i (.bin .shl .i64 (.lit 1) (.var 8))), (.l .nil), (.i (.var 12)), (.i (.lit 0))] 0 T20L0)))
              (.branch (.cmp .neq (.var 7) (.lit 3))
               (.loop 0 [(.i (.var 7)), (.i (.var 8)), (.i (.lit 0)), (.i (.lit 0)), (.i (.var 11)), (.i (.var 0)), (.i (.var 1)), (.i (.var 2)), (.i (.var 3)), (.i (.var 4)), (.i (.var 5)), (.b (.var 6)), (.i (.bin .shl .i64 (.lit 1) (.var 8))), (.l .nil), (.i (.var 12)), (.i (.lit 0))] 0 T20L0)
               (.loop 0 [(.i (.var 7)), (.i (.var 8)), (.i (.var 9)), (.i (.var 10)), (.i (.var 11)), (.i (.var 0)), (.i (.var 1)), (.i (.var 2)), (.i (.var 3)), (.i (.var 4)), (.i (.var 5)), (.b (.var 6)), (.i (.bin .shl .i64 (.lit 1) (.var 8))), (.l .nil), (.i (.var 12)), (.i (.lit 0))] 0 T20L0)))))))))
          (.req (.le (.lit 0) (.var 8))
           (.req (.ne0 (.bin .shl .i64 (.lit 1) (.var 8)))
           (.branch (.cmp .neq (.bin .rem .i64 (.var 11) (.bin .shl .i64 (.lit 1) (.var 8))) (.lit 0))
           (.ret (.tuple [(.own 23 .nil), (.c (.int .i64 (.lit 6)))]) [.dead, .dead, .dead, .dead, .dead, .dead, .dead])
           (.req (.le (.lit 0) (.var 2))
            (.branch (.cmp .gtr (.var 11) (.bin .sub .i64 (.bin .shl .i64 (.lit 1) (.var 2)) (.bin .mul .i64 (.var 12) (.bin .shl .i64 (.lit 1) (.var 8)))))
            (.ret (.tuple [(.own 23 .nil), (.c (.int .i64 (.lit 6)))]) [.dead, .dead, .dead, .dead, .dead, .dead, .dead])
            (.branch (.cmp .eql (.var 7) (.lit 1))
             (.branch (.cmp .geq (.var 8) (.var 2))
              (.ret (.tuple [(.own 23 .nil), (.c (.int .i64 (.lit 6)))]) [.dead, .dead, .dead, .dead, .dead, .dead, .dead])
              (.branch (.cmp .neq (.var 7) (.lit 3))
               (.loop 0 [(.i (.var 7)), (.i (.var 8)), (.i (.lit 0)), (.i (.lit 0)), (.i (.var 11)), (.i (.var 0)), (.i (.var 1)), (.i (.var 2)), (.i (.var 3)), (.i (.var 4)), (.i (.var 5)), (.b (.var 6)), (.i (.bin .shl .i64 (.lit 1) (.var 8))), (.l .nil), (.i (.var 12)), (.i (.lit 0))] 0 T20L0)
               (.loop 0 [(.i (.var 7)), (.i (.var 8)), (.i (.var 9)), (.i (.var 10)), (.i (.var 11)), (.i (.var 0)), (.i (.var 1)), (.i (.var 2)), (.i (.var 3)), (.i (.var 4)), (.i (.var 5)), (.b (.var 6)), (.i (.bin .shl .i64 (.lit 1) (.var 8))), (.l .nil), (.i (.var 12)), (.i (.lit 0))] 0 T20L0)))
             (.branch (.cmp .neq (.var 7) (.lit 3))
              (.loop 0 [(.i (.var 7)), (.i (.var 8)), (.i (.lit 0)), (.i (.lit 0)), (.i (.var 11)), (.i (.var 0)), (.i (.var 1)), (.i (.var 2)), (.i (.var 3)), (.i (.var 4)), (.i (.var 5)), (.b (.var 6)), (.i (.bin .shl .i64 (.lit 1) (.var 8))), (.l .nil), (.i (.var 12)), (.i (.lit 0))] 0 T20L0)
              (.loop 0 [(.i (.var 7)), (.i (.var 8)), (.i (.var 9)), (.i (.var 10)), (.i (.var 11)), (.i (.var 0)), (.i (.var 1)), (.i (.var 2)), (.i (.var 3)), (.i (.var 4)), (.i (.var 5)), (.b (.var 6)), (.i (.bin .shl .i64 (.lit 1) (.var 8))), (.l .nil), (.i (.var 12)), (.i (.lit 0))] 0 T20L0)))))))))
         (.req (.le (.lit 0) (.var 8))
          (.req (.ne0 (.bin .shl .i64 (.lit 1) (.var 8)))
          (.branch (.cmp .neq (.bin .rem .i64 (.var 11) (.bin .shl .i64 (.lit 1) (.var 8))) (.lit 0))
          (.ret (.tuple [(.own 23 .nil), (.c (.int .i64 (.lit 6)))]) [.dead, .dead, .dead, .dead, .dead, .dead, .dead])
          (.req (.le (.lit 0) (.var 2))
           (.branch (.cmp .gtr (.var 11) (.bin .sub .i64 (.bin .shl .i64 (.lit 1) (.var 2)) (.bin .mul .i64 (.var 12) (.bin .shl .i64 (.lit 1) (.var 8)))))
           (.ret (.tuple [(.own 23 .nil), (.c (.int .i64 (.lit 6)))]) [.dead, .dead, .dead, .dead, .dead, .dead, .dead])
           (.branch (.cmp .eql (.var 7) (.lit 1))
            (.branch (.cmp .geq (.var 8) (.var 2))
             (.ret (.tuple [(.own 23 .nil), (.c (.int .i64 (.lit 6)))]) [.dead, .dead, .dead, .dead, .dead, .dead, .dead])
             (.branch (.cmp .neq (.var 7) (.lit 3))
              (.loop 0 [(.i (.var 7)), (.i (.var 8)), (.i (.lit 0)), (.i (.lit 0)), (.i (.var 11)), (.i (.var 0)), (.i (.var 1)), (.i (.var 2)), (.i (.var 3)), (.i (.var 4)), (.i (.var 5)), (.b (.var 6)), (.i (.bin .shl .i64 (.lit 1) (.var 8))), (.l .nil), (.i (.var 12)), (.i (.lit 0))] 0 T20L0)
              (.loop 0 [(.i (.var 7)), (.i (.var 8)), (.i (.var 9)), (.i (.var 10)), (.i (.var 11)), (.i (.var 0)), (.i (.var 1)), (.i (.var 2)), (.i (.var 3)), (.i (.var 4)), (.i (.var 5)), (.b (.var 6)), (.i (.bin .shl .i64 (.lit 1) (.var 8))), (.l .nil), (.i (.var 12)), (.i (.lit 0))] 0 T20L0)))
            (.branch (.cmp .neq (.var 7) (.lit 3))
             (.loop 0 [(.i (.var 7)), (.i (.var 8)), (.i (.lit 0)), (.i (.lit 0)), (.i (.var 11)), (.i (.var 0)), (.i (.var 1)), (.i (.var 2)), (.i (.var 3)), (.i (.var 4)), (.i (.var 5)), (.b (.var 6)), (.i (.bin .shl .i64 (.lit 1) (.var 8))), (.l .nil), (.i (.var 12)), (.i (.lit 0))] 0 T20L0)
             (.loop 0 [(.i (.var 7)), (.i (.var 8)), (.i (.var 9)), (.i (.var 10)), (.i (.var 11)), (.i (.var 0)), (.i (.var 1)), (.i (.var 2)), (.i (.var 3)), (.i (.var 4)), (.i (.var 5)), (.b (.var 6)), (.i (.bin .shl .i64 (.lit 1) (.var 8))), (.l .nil), (.i (.var 12)), (.i (.lit 0))] 0 T20L0)))))))))))))))))))
theorem eq20 : evFn Try.prog E20 Try.f20 (argsAt A20 0) 13 = T20 := by kernel_rfl
noncomputable def P20 : List (FuncId × Fun) := [(28, S28), (67, S67), (68, S68)]
noncomputable def S20 : Fun := ⟨A20, R20, fun vs => T20.run Try.prog P20 A20 R20 (fun _ _ => none) (envL vs)⟩
theorem ok20 : S20.Ok Try.prog 20 := fun_ok (Φ := P20) (S := S20) mixed plain_ok Try.func20 (by kernel_rfl) (by kernel_rfl) (by kernel_rfl) eq20 (And.intro ok28 (And.intro ok67 (And.intro ok68 trivial))) (fun _ => by kernel_rfl)
noncomputable def g20 (x0 : Int) (x1 : Int) (x2 : Int) (x3 : Int) (x4 : Int) (x5 : Int) (x6 : Bool) (x7 : Int) (x8 : Int) (x9 : Int) (x10 : Int) (x11 : Int) (x12 : Int) : Option (List (List AV) × Int) := S20.g [.i x0, .i x1, .i x2, .i x3, .i x4, .i x5, .b x6, .i x7, .i x8, .i x9, .i x10, .i x11, .i x12]
noncomputable def g20L0 (k : Nat) (x0 : Int) (x1 : Int) (x2 : Int) (x3 : Int) (x4 : Int) (x5 : Int) (x6 : Int) (x7 : Int) (x8 : Int) (x9 : Int) (x10 : Int) (x11 : Bool) (x12 : Int) (x13 : List (List AV)) (x14 : Int) (x15 : Int) : Option (List (List AV) × Int) := iterL (fun rec vs => STree.run Try.prog P20 A20 R20 T20L0 (updR (fun _ _ => none) 0 rec) (bind zeroE 0 vs)) k [.i x0, .i x1, .i x2, .i x3, .i x4, .i x5, .i x6, .i x7, .i x8, .i x9, .i x10, .b x11, .i x12, .l x13, .i x14, .i x15]
theorem g20L0_eq (k : Nat) (x0 : Int) (x1 : Int) (x2 : Int) (x3 : Int) (x4 : Int) (x5 : Int) (x6 : Int) (x7 : Int) (x8 : Int) (x9 : Int) (x10 : Int) (x11 : Bool) (x12 : Int) (x13 : List (List AV)) (x14 : Int) (x15 : Int) : g20L0 (k + 1) x0 x1 x2 x3 x4 x5 x6 x7 x8 x9 x10 x11 x12 x13 x14 x15 =
    (if (cop .lss x15 x14) = true then
      reqK (roomP x13 (([] : List (List AV)) ++ [[AV.val (.int .i64 x0), AV.val (.int .i64 (iop .add .i64 (iop .add .i64 x6 x4) (iop .mul .i64 x15 x12))), AV.val (.int .i64 x1), AV.val (.int .i64 x8), AV.val (.int .i64 x3), AV.val (.int .i64 x2), AV.val (.bool x11)]]) 56) <|
      g20L0 k x0 x1 x2 x3 x4 x5 x6 x7 x8 x9 x10 x11 x12 (x13 ++ (([] : List (List AV)) ++ [[AV.val (.int .i64 x0), AV.val (.int .i64 (iop .add .i64 (iop .add .i64 x6 x4) (iop .mul .i64 x15 x12))), AV.val (.int .i64 x1), AV.val (.int .i64 x8), AV.val (.int .i64 x3), AV.val (.int .i64 x2), AV.val (.bool x11)]])) x14 (iop .add .i64 x15 1)
    else
      some (x13, 0)) := by kernel_rfl
theorem g20_eq (x0 : Int) (x1 : Int) (x2 : Int) (x3 : Int) (x4 : Int) (x5 : Int) (x6 : Bool) (x7 : Int) (x8 : Int) (x9 : Int) (x10 : Int) (x11 : Int) (x12 : Int) : g20 x0 x1 x2 x3 x4 x5 x6 x7 x8 x9 x10 x11 x12 =
    ((g28 x0 x1 x2 x3 x4 x5 x6).bind fun (r13 : Bool) =>
    if (!r13) = true then
      some (([] : List (List AV)), 5)
    else
      if (cop .neq x0 1) = true then
        some (([] : List (List AV)), 5)
      else
        if (cop .eql (iop .and .i64 x3 2) 0) = true then
          some (([] : List (List AV)), 8)
        else
          (g67 x7 x8).bind fun (r14 : Bool) =>
          if (!r14) = true then
            some (([] : List (List AV)), 1)
          else
            if (cop .eql x7 3) = true then
              (g68 x10 x9).bind fun (r15 : Bool) =>
              if (!r15) = true then
                some (([] : List (List AV)), 1)
              else
                if (cop .lss x12 1) = true then
                  some (([] : List (List AV)), 1)
                else
                  if (cop .gtr x12 8) = true then
                    some (([] : List (List AV)), 1)
                  else
                    if (cop .lss x11 0) = true then
                      some (([] : List (List AV)), 1)
                    else
                      if x6 = true then
                        if (cop .neq x7 1) = true then
                          if (cop .neq x7 2) = true then
                            some (([] : List (List AV)), 5)
                          else
                            reqK ((0 : Int) ≤ x8) <|
                            reqK (((iop .shl .i64 1 x8) : Int) ≠ 0) <|
                            if (cop .neq (iop .rem .i64 x11 (iop .shl .i64 1 x8)) 0) = true then
                              some (([] : List (List AV)), 6)
                            else
                              reqK ((0 : Int) ≤ x2) <|
                              if (cop .gtr x11 (iop .sub .i64 (iop .shl .i64 1 x2) (iop .mul .i64 x12 (iop .shl .i64 1 x8)))) = true then
                                some (([] : List (List AV)), 6)
                              else
                                if (cop .eql x7 1) = true then
                                  if (cop .geq x8 x2) = true then
                                    some (([] : List (List AV)), 6)
                                  else
                                    if (cop .neq x7 3) = true then
                                      g20L0 FUEL x7 x8 0 0 x11 x0 x1 x2 x3 x4 x5 x6 (iop .shl .i64 1 x8) ([] : List (List AV)) x12 0
                                    else
                                      g20L0 FUEL x7 x8 x9 x10 x11 x0 x1 x2 x3 x4 x5 x6 (iop .shl .i64 1 x8) ([] : List (List AV)) x12 0
                                else
                                  if (cop .neq x7 3) = true then
                                    g20L0 FUEL x7 x8 0 0 x11 x0 x1 x2 x3 x4 x5 x6 (iop .shl .i64 1 x8) ([] : List (List AV)) x12 0
                                  else
                                    g20L0 FUEL x7 x8 x9 x10 x11 x0 x1 x2 x3 x4 x5 x6 (iop .shl .i64 1 x8) ([] : List (List AV)) x12 0
                        else
                          reqK ((0 : Int) ≤ x8) <|
                          reqK (((iop .shl .i64 1 x8) : Int) ≠ 0) <|
                          if (cop .neq (iop .rem .i64 x11 (iop .shl .i64 1 x8)) 0) = true then
                            some (([] : List (List AV)), 6)
                          else
                            reqK ((0 : Int) ≤ x2) <|
                            if (cop .gtr x11 (iop .sub .i64 (iop .shl .i64 1 x2) (iop .mul .i64 x12 (iop .shl .i64 1 x8)))) = true then
                              some (([] : List (List AV)), 6)
                            else
                              if (cop .eql x7 1) = true then
                                if (cop .geq x8 x2) = true then
                                  some (([] : List (List AV)), 6)
                                else
                                  if (cop .neq x7 3) = true then
                                    g20L0 FUEL x7 x8 0 0 x11 x0 x1 x2 x3 x4 x5 x6 (iop .shl .i64 1 x8) ([] : List (List AV)) x12 0
                                  else
                                    g20L0 FUEL x7 x8 x9 x10 x11 x0 x1 x2 x3 x4 x5 x6 (iop .shl .i64 1 x8) ([] : List (List AV)) x12 0
                              else
                                if (cop .neq x7 3) = true then
                                  g20L0 FUEL x7 x8 0 0 x11 x0 x1 x2 x3 x4 x5 x6 (iop .shl .i64 1 x8) ([] : List (List AV)) x12 0
                                else
                                  g20L0 FUEL x7 x8 x9 x10 x11 x0 x1 x2 x3 x4 x5 x6 (iop .shl .i64 1 x8) ([] : List (List AV)) x12 0
                      else
                        reqK ((0 : Int) ≤ x8) <|
                        reqK (((iop .shl .i64 1 x8) : Int) ≠ 0) <|
                        if (cop .neq (iop .rem .i64 x11 (iop .shl .i64 1 x8)) 0) = true then
                          some (([] : List (List AV)), 6)
                        else
                          reqK ((0 : Int) ≤ x2) <|
                          if (cop .gtr x11 (iop .sub .i64 (iop .shl .i64 1 x2) (iop .mul .i64 x12 (iop .shl .i64 1 x8)))) = true then
                            some (([] : List (List AV)), 6)
                          else
                            if (cop .eql x7 1) = true then
                              if (cop .geq x8 x2) = true then
                                some (([] : List (List AV)), 6)
                              else
                                if (cop .neq x7 3) = true then
                                  g20L0 FUEL x7 x8 0 0 x11 x0 x1 x2 x3 x4 x5 x6 (iop .shl .i64 1 x8) ([] : List (List AV)) x12 0
                                else
                                  g20L0 FUEL x7 x8 x9 x10 x11 x0 x1 x2 x3 x4 x5 x6 (iop .shl .i64 1 x8) ([] : List (List AV)) x12 0
                            else
                              if (cop .neq x7 3) = true then
                                g20L0 FUEL x7 x8 0 0 x11 x0 x1 x2 x3 x4 x5 x6 (iop .shl .i64 1 x8) ([] : List (List AV)) x12 0
                              else
                                g20L0 FUEL x7 x8 x9 x10 x11 x0 x1 x2 x3 x4 x5 x6 (iop .shl .i64 1 x8) ([] : List (List AV)) x12 0
            else
              if (cop .lss x12 1) = true then
                some (([] : List (List AV)), 1)
              else
                if (cop .gtr x12 8) = true then
                  some (([] : List (List AV)), 1)
                else
                  if (cop .lss x11 0) = true then
                    some (([] : List (List AV)), 1)
                  else
                    if x6 = true then
                      if (cop .neq x7 1) = true then
                        if (cop .neq x7 2) = true then
                          some (([] : List (List AV)), 5)
                        else
                          reqK ((0 : Int) ≤ x8) <|
                          reqK (((iop .shl .i64 1 x8) : Int) ≠ 0) <|
                          if (cop .neq (iop .rem .i64 x11 (iop .shl .i64 1 x8)) 0) = true then
                            some (([] : List (List AV)), 6)
                          else
                            reqK ((0 : Int) ≤ x2) <|
                            if (cop .gtr x11 (iop .sub .i64 (iop .shl .i64 1 x2) (iop .mul .i64 x12 (iop .shl .i64 1 x8)))) = true then
                              some (([] : List (List AV)), 6)
                            else
                              if (cop .eql x7 1) = true then
                                if (cop .geq x8 x2) = true then
                                  some (([] : List (List AV)), 6)
                                else
                                  if (cop .neq x7 3) = true then
                                    g20L0 FUEL x7 x8 0 0 x11 x0 x1 x2 x3 x4 x5 x6 (iop .shl .i64 1 x8) ([] : List (List AV)) x12 0
                                  else
                                    g20L0 FUEL x7 x8 x9 x10 x11 x0 x1 x2 x3 x4 x5 x6 (iop .shl .i64 1 x8) ([] : List (List AV)) x12 0
                              else
                                if (cop .neq x7 3) = true then
                                  g20L0 FUEL x7 x8 0 0 x11 x0 x1 x2 x3 x4 x5 x6 (iop .shl .i64 1 x8) ([] : List (List AV)) x12 0
                                else
                                  g20L0 FUEL x7 x8 x9 x10 x11 x0 x1 x2 x3 x4 x5 x6 (iop .shl .i64 1 x8) ([] : List (List AV)) x12 0
                      else
                        reqK ((0 : Int) ≤ x8) <|
                        reqK (((iop .shl .i64 1 x8) : Int) ≠ 0) <|
                        if (cop .neq (iop .rem .i64 x11 (iop .shl .i64 1 x8)) 0) = true then
                          some (([] : List (List AV)), 6)
                        else
                          reqK ((0 : Int) ≤ x2) <|
                          if (cop .gtr x11 (iop .sub .i64 (iop .shl .i64 1 x2) (iop .mul .i64 x12 (iop .shl .i64 1 x8)))) = true then
                            some (([] : List (List AV)), 6)
                          else
                            if (cop .eql x7 1) = true then
                              if (cop .geq x8 x2) = true then
                                some (([] : List (List AV)), 6)
                              else
                                if (cop .neq x7 3) = true then
                                  g20L0 FUEL x7 x8 0 0 x11 x0 x1 x2 x3 x4 x5 x6 (iop .shl .i64 1 x8) ([] : List (List AV)) x12 0
                                else
                                  g20L0 FUEL x7 x8 x9 x10 x11 x0 x1 x2 x3 x4 x5 x6 (iop .shl .i64 1 x8) ([] : List (List AV)) x12 0
                            else
                              if (cop .neq x7 3) = true then
                                g20L0 FUEL x7 x8 0 0 x11 x0 x1 x2 x3 x4 x5 x6 (iop .shl .i64 1 x8) ([] : List (List AV)) x12 0
                              else
                                g20L0 FUEL x7 x8 x9 x10 x11 x0 x1 x2 x3 x4 x5 x6 (iop .shl .i64 1 x8) ([] : List (List AV)) x12 0
                    else
                      reqK ((0 : Int) ≤ x8) <|
                      reqK (((iop .shl .i64 1 x8) : Int) ≠ 0) <|
                      if (cop .neq (iop .rem .i64 x11 (iop .shl .i64 1 x8)) 0) = true then
                        some (([] : List (List AV)), 6)
                      else
                        reqK ((0 : Int) ≤ x2) <|
                        if (cop .gtr x11 (iop .sub .i64 (iop .shl .i64 1 x2) (iop .mul .i64 x12 (iop .shl .i64 1 x8)))) = true then
                          some (([] : List (List AV)), 6)
                        else
                          if (cop .eql x7 1) = true then
                            if (cop .geq x8 x2) = true then
                              some (([] : List (List AV)), 6)
                            else
                              if (cop .neq x7 3) = true then
                                g20L0 FUEL x7 x8 0 0 x11 x0 x1 x2 x3 x4 x5 x6 (iop .shl .i64 1 x8) ([] : List (List AV)) x12 0
                              else
                                g20L0 FUEL x7 x8 x9 x10 x11 x0 x1 x2 x3 x4 x5 x6 (iop .shl .i64 1 x8) ([] : List (List AV)) x12 0
                          else
                            if (cop .neq x7 3) = true then
                              g20L0 FUEL x7 x8 0 0 x11 x0 x1 x2 x3 x4 x5 x6 (iop .shl .i64 1 x8) ([] : List (List AV)) x12 0
                            else
                              g20L0 FUEL x7 x8 x9 x10 x11 x0 x1 x2 x3 x4 x5 x6 (iop .shl .i64 1 x8) ([] : List (List AV)) x12 0) := by kernel_rfl

/- multikernel/multikernellaw11.awake -/
def E23 : Env := envG 35 [0] [] []
def A23 : List AP := []
def R23 : List RSh := [.c (.bool)]
def T23 : STree := (.call 20 [(.agg [(.int .i64 (.lit 1)), (.int .i64 (.lit 0)), (.int .i64 (.lit 14)), (.int .i64 (.lit 7)), (.int .i64 (.lit 0)), (.int .i64 (.lit 0)), (.bool (.lit false))]), (.c (.int .i64 (.lit 3))), (.c (.int .i64 (.lit 12))), (.c (.int .i64 (.lit 0))), (.c (.int .i64 (.lit 32))), (.c (.int .i64 (.lit 4096))), (.c (.int .i64 (.lit 2)))] (.tuple [(.own 23 (.var 0)), (.c (.int .i64 (.var 1)))]) [.dead, .dead, .dead, .dead, .dead, .dead, .dead] 0 [.own 23, .int .i64]
 (.branch (.cmp .eql (.var 1) (.lit 0))
 (.branch (.cmp .eql (.len (.var 0)) (.lit 2))
  (.elem (.var 0) (.lit 0) [.int .i64, .int .i64, .int .i64, .int .i64, .int .i64, .int .i64, .bool] 2
   (.branch (.cmp .eql (.var 3) (.lit 4096))
   (.elem (.var 0) (.lit 1) [.int .i64, .int .i64, .int .i64, .int .i64, .int .i64, .int .i64, .bool] 9
    (.branch (.cmp .eql (.var 10) (.lit 8192))
    (.elem (.var 0) (.lit 1) [.int .i64, .int .i64, .int .i64, .int .i64, .int .i64, .int .i64, .bool] 16
     (.call 28 [(.agg [(.int .i64 (.var 16)), (.int .i64 (.var 17)), (.int .i64 (.var 18)), (.int .i64 (.var 19)), (.int .i64 (.var 20)), (.int .i64 (.var 21)), (.bool (.var 22))])] (.c (.bool (.var 23))) [.dead] 23 [.bool]
     (.ret (.c (.bool (.var 23))) [])))
    (.ret (.c (.bool (.lit false))) [])))
   (.ret (.c (.bool (.lit false))) [])))
  (.ret (.c (.bool (.lit false))) []))
 (.ret (.c (.bool (.lit false))) [])))
theorem eq23 : evFn Try.prog E23 Try.f23 (argsAt A23 0) 0 = T23 := by kernel_rfl
noncomputable def P23 : List (FuncId × Fun) := [(20, S20), (28, S28)]
noncomputable def S23 : Fun := ⟨A23, R23, fun vs => T23.run Try.prog P23 A23 R23 (fun _ _ => none) (envL vs)⟩
theorem ok23 : S23.Ok Try.prog 23 := fun_ok (Φ := P23) (S := S23) mixed plain_ok Try.func23 (by kernel_rfl) (by kernel_rfl) (by kernel_rfl) eq23 (And.intro ok20 (And.intro ok28 trivial)) (fun _ => by kernel_rfl)
noncomputable def g23 : Option (Bool) := S23.g []
theorem g23_eq : g23 =
    ((g20 1 0 14 7 0 0 false 3 12 0 32 4096 2).bind fun (r0 : List (List AV) × Int) =>
    if (cop .eql r0.2 0) = true then
      if (cop .eql (List.length r0.1 : Int) 2) = true then
        elemK r0.1 0 [.int .i64, .int .i64, .int .i64, .int .i64, .int .i64, .int .i64, .bool] fun (r2 : Int × Int × Int × Int × Int × Int × Bool) =>
        if (cop .eql r2.2.1 4096) = true then
          elemK r0.1 1 [.int .i64, .int .i64, .int .i64, .int .i64, .int .i64, .int .i64, .bool] fun (r9 : Int × Int × Int × Int × Int × Int × Bool) =>
          if (cop .eql r9.2.1 8192) = true then
            elemK r0.1 1 [.int .i64, .int .i64, .int .i64, .int .i64, .int .i64, .int .i64, .bool] fun (r16 : Int × Int × Int × Int × Int × Int × Bool) =>
            (g28 r16.1 r16.2.1 r16.2.2.1 r16.2.2.2.1 r16.2.2.2.2.1 r16.2.2.2.2.2.1 r16.2.2.2.2.2.2).bind fun (r23 : Bool) =>
            some (r23)
          else
            some (false)
        else
          some (false)
      else
        some (false)
    else
      some (false)) := by kernel_rfl

/- multikernel/multikernellaw11.CapExact -/
def E8 : Env := envG 49 [6] [] []
def A8 : List AP := [.agg [.int .i64, .int .i64, .int .i64, .int .i64, .int .i64, .int .i64, .bool], .agg [.int .i64, .int .i64, .int .i64, .int .i64, .int .i64, .int .i64, .bool], .c (.int .i64)]
def R8 : List RSh := [.c (.bool)]
def T8 : STree := (.call 28 [(.agg [(.int .i64 (.var 0)), (.int .i64 (.var 1)), (.int .i64 (.var 2)), (.int .i64 (.var 3)), (.int .i64 (.var 4)), (.int .i64 (.var 5)), (.bool (.var 6))])] (.c (.bool (.var 15))) [.dead] 15 [.bool]
 (.call 33 [(.agg [(.int .i64 (.var 0)), (.int .i64 (.var 1)), (.int .i64 (.var 2)), (.int .i64 (.var 3)), (.int .i64 (.var 4)), (.int .i64 (.var 5)), (.bool (.var 6))])] (.c (.bool (.var 16))) [.dead] 16 [.bool]
 (.branch (.beq (.var 15) (.var 16))
 (.call 32 [(.agg [(.int .i64 (.var 0)), (.int .i64 (.var 1)), (.int .i64 (.var 2)), (.int .i64 (.var 3)), (.int .i64 (.var 4)), (.int .i64 (.var 5)), (.bool (.var 6))])] (.agg [(.int .i64 (.var 17)), (.int .i64 (.var 18))]) [.dead] 17 [.int .i64, .int .i64]
  (.call 34 [(.agg [(.int .i64 (.var 0)), (.int .i64 (.var 1)), (.int .i64 (.var 2)), (.int .i64 (.var 3)), (.int .i64 (.var 4)), (.int .i64 (.var 5)), (.bool (.var 6))])] (.agg [(.int .i64 (.var 19)), (.int .i64 (.var 20))]) [.dead] 19 [.int .i64, .int .i64]
  (.branch (.and (.cmp .eql (.var 17) (.var 19)) (.and (.cmp .eql (.var 18) (.var 20)) (.lit true)))
  (.call 27 [(.agg [(.int .i64 (.var 0)), (.int .i64 (.var 1)), (.int .i64 (.var 2)), (.int .i64 (.var 3)), (.int .i64 (.var 4)), (.int .i64 (.var 5)), (.bool (.var 6))]), (.agg [(.int .i64 (.var 7)), (.int .i64 (.var 8)), (.int .i64 (.var 9)), (.int .i64 (.var 10)), (.int .i64 (.var 11)), (.int .i64 (.var 12)), (.bool (.var 13))])] (.c (.bool (.var 21))) [.dead, .dead] 21 [.bool]
   (.call 35 [(.agg [(.int .i64 (.var 0)), (.int .i64 (.var 1)), (.int .i64 (.var 2)), (.int .i64 (.var 3)), (.int .i64 (.var 4)), (.int .i64 (.var 5)), (.bool (.var 6))]), (.agg [(.int .i64 (.var 7)), (.int .i64 (.var 8)), (.int .i64 (.var 9)), (.int .i64 (.var 10)), (.int .i64 (.var 11)), (.int .i64 (.var 12)), (.bool (.var 13))])] (.c (.bool (.var 22))) [.dead, .dead] 22 [.bool]
   (.branch (.beq (.var 21) (.var 22))
   (.call 30 [(.agg [(.int .i64 (.var 0)), (.int .i64 (.var 1)), (.int .i64 (.var 2)), (.int .i64 (.var 3)), (.int .i64 (.var 4)), (.int .i64 (.var 5)), (.bool (.var 6))]), (.agg [(.int .i64 (.var 7)), (.int .i64 (.var 8)), (.int .i64 (.var 9)), (.int .i64 (.var 10)), (.int .i64 (.var 11)), (.int .i64 (.var 12)), (.bool (.var 13))])] (.c (.bool (.var 23))) [.dead, .dead] 23 [.bool]
    (.call 36 [(.agg [(.int .i64 (.var 0)), (.int .i64 (.var 1)), (.int .i64 (.var 2)), (.int .i64 (.var 3)), (.int .i64 (.var 4)), (.int .i64 (.var 5)), (.bool (.var 6))]), (.agg [(.int .i64 (.var 7)), (.int .i64 (.var 8)), (.int .i64 (.var 9)), (.int .i64 (.var 10)), (.int .i64 (.var 11)), (.int .i64 (.var 12)), (.bool (.var 13))])] (.c (.bool (.var 24))) [.dead, .dead] 24 [.bool]
    (.branch (.beq (.var 23) (.var 24))
    (.call 26 [(.agg [(.int .i64 (.var 0)), (.int .i64 (.var 1)), (.int .i64 (.var 2)), (.int .i64 (.var 3)), (.int .i64 (.var 4)), (.int .i64 (.var 5)), (.bool (.var 6))]), (.c (.int .i64 (.var 14)))] (.agg [(.int .i64 (.var 25)), (.int .i64 (.var 26)), (.int .i64 (.var 27)), (.int .i64 (.var 28)), (.int .i64 (.var 29)), (.int .i64 (.var 30)), (.bool (.var 31))]) [.dead, .dead] 25 [.int .i64, .int .i64, .int .i64, .int .i64, .int .i64, .int .i64, .bool]
     (.call 37 [(.agg [(.int .i64 (.var 0)), (.int .i64 (.var 1)), (.int .i64 (.var 2)), (.int .i64 (.var 3)), (.int .i64 (.var 4)), (.int .i64 (.var 5)), (.bool (.var 6))]), (.c (.int .i64 (.var 14)))] (.agg [(.int .i64 (.var 32)), (.int .i64 (.var 33)), (.int .i64 (.var 34)), (.int .i64 (.var 35)), (.int .i64 (.var 36)), (.int .i64 (.var 37)), (.bool (.var 38))]) [.dead, .dead] 32 [.int .i64, .int .i64, .int .i64, .int .i64, .int .i64, .int .i64, .bool]
     (.branch (.and (.cmp .eql (.var 25) (.var 32)) (.and (.cmp .eql (.var 26) (.var 33)) (.and (.cmp .eql (.var 27) (.var 34)) (.and (.cmp .eql (.var 28) (.var 35)) (.and (.cmp .eql (.var 29) (.var 36)) (.and (.cmp .eql (.var 30) (.var 37)) (.and (.beq (.var 31) (.var 38)) (.lit true))))))))
     (.call 23 [] (.c (.bool (.var 39))) [] 39 [.bool]
      (.ret (.c (.bool (.var 39))) [.dead, .dead, .dead]))
     (.ret (.c (.bool (.lit false))) [.dead, .dead, .dead]))))
    (.ret (.c (.bool (.lit false))) [.dead, .dead, .dead]))))
   (.ret (.c (.bool (.lit false))) [.dead, .dead, .dead]))))
  (.ret (.c (.bool (.lit false))) [.dead, .dead, .dead]))))
 (.ret (.c (.bool (.lit false))) [.dead, .dead, .dead]))))
theorem eq8 : evFn Try.prog E8 Try.f8 (argsAt A8 0) 15 = T8 := by kernel_rfl
noncomputable def P8 : List (FuncId × Fun) := [(28, S28), (33, S33), (32, S32), (34, S34), (27, S27), (35, S35), (30, S30), (36, S36), (26, S26), (37, S37), (23, S23)]
noncomputable def S8 : Fun := ⟨A8, R8, fun vs => T8.run Try.prog P8 A8 R8 (fun _ _ => none) (envL vs)⟩
theorem ok8 : S8.Ok Try.prog 8 := fun_ok (Φ := P8) (S := S8) mixed plain_ok Try.func8 (by kernel_rfl) (by kernel_rfl) (by kernel_rfl) eq8 (And.intro ok28 (And.intro ok33 (And.intro ok32 (And.intro ok34 (And.intro ok27 (And.intro ok35 (And.intro ok30 (And.intro ok36 (And.intro ok26 (And.intro ok37 (And.intro ok23 trivial))))))))))) (fun _ => by kernel_rfl)
noncomputable def g8 (x0 : Int) (x1 : Int) (x2 : Int) (x3 : Int) (x4 : Int) (x5 : Int) (x6 : Bool) (x7 : Int) (x8 : Int) (x9 : Int) (x10 : Int) (x11 : Int) (x12 : Int) (x13 : Bool) (x14 : Int) : Option (Bool) := S8.g [.i x0, .i x1, .i x2, .i x3, .i x4, .i x5, .b x6, .i x7, .i x8, .i x9, .i x10, .i x11, .i x12, .b x13, .i x14]
theorem g8_eq (x0 : Int) (x1 : Int) (x2 : Int) (x3 : Int) (x4 : Int) (x5 : Int) (x6 : Bool) (x7 : Int) (x8 : Int) (x9 : Int) (x10 : Int) (x11 : Int) (x12 : Int) (x13 : Bool) (x14 : Int) : g8 x0 x1 x2 x3 x4 x5 x6 x7 x8 x9 x10 x11 x12 x13 x14 =
    ((g28 x0 x1 x2 x3 x4 x5 x6).bind fun (r15 : Bool) =>
    (g33 x0 x1 x2 x3 x4 x5 x6).bind fun (r16 : Bool) =>
    if (r15 == r16) = true then
      (g32 x0 x1 x2 x3 x4 x5 x6).bind fun (r17 : Int × Int) =>
      (g34 x0 x1 x2 x3 x4 x5 x6).bind fun (r19 : Int × Int) =>
      if ((cop .eql r17.1 r19.1) && ((cop .eql r17.2 r19.2) && true)) = true then
        (g27 x0 x1 x2 x3 x4 x5 x6 x7 x8 x9 x10 x11 x12 x13).bind fun (r21 : Bool) =>
        (g35 x0 x1 x2 x3 x4 x5 x6 x7 x8 x9 x10 x11 x12 x13).bind fun (r22 : Bool) =>
        if (r21 == r22) = true then
          (g30 x0 x1 x2 x3 x4 x5 x6 x7 x8 x9 x10 x11 x12 x13).bind fun (r23 : Bool) =>
          (g36 x0 x1 x2 x3 x4 x5 x6 x7 x8 x9 x10 x11 x12 x13).bind fun (r24 : Bool) =>
          if (r23 == r24) = true then
            (g26 x0 x1 x2 x3 x4 x5 x6 x14).bind fun (r25 : Int × Int × Int × Int × Int × Int × Bool) =>
            (g37 x0 x1 x2 x3 x4 x5 x6 x14).bind fun (r32 : Int × Int × Int × Int × Int × Int × Bool) =>
            if ((cop .eql r25.1 r32.1) && ((cop .eql r25.2.1 r32.2.1) && ((cop .eql r25.2.2.1 r32.2.2.1) && ((cop .eql r25.2.2.2.1 r32.2.2.2.1) && ((cop .eql r25.2.2.2.2.1 r32.2.2.2.2.1) && ((cop .eql r25.2.2.2.2.2.1 r32.2.2.2.2.2.1) && ((r25.2.2.2.2.2.2 == r32.2.2.2.2.2.2) && true))))))) = true then
              (g23).bind fun (r39 : Bool) =>
              some (r39)
            else
              some (false)
          else
            some (false)
        else
          some (false)
      else
        some (false)
    else
      some (false)) := by kernel_rfl

/- multikernel/multikernelref10.Retype -/
def E21 : Env := envG 136 [14, 15] [(16, [(1, .c (.int .i64)), (2, .c (.int .i64)), (3, .c (.int .i64)), (4, .c (.int .i64)), (5, .c (.int .i64)), (6, .c (.int .i64)), (7, .box [.int .i64, .int .i64, .int .i64, .int .i64, .int .i64, .int .i64, .bool]), (16, .c (.bool)), (17, .c (.int .i64)), (19, .c (.own 23)), (20, .c (.int .i64))])] []
def A21 : List AP := [.agg [.int .i64, .int .i64, .int .i64, .int .i64, .int .i64, .int .i64, .bool], .c (.int .i64), .c (.int .i64), .c (.int .i64), .c (.int .i64), .c (.int .i64), .c (.int .i64)]
def R21 : List RSh := [.c (.own 23), .c (.int .i64)]
def T21L0 : STree := (.branch (.cmp .lss (.var 16) (.var 5))
 (.branch (.var 13)
  (.req (.room (.var 15) (.snoc .nil (.cons (.int .i64 (.var 0)) (.cons (.int .i64 (.bin .add .i64 (.bin .add .i64 (.var 7) (.var 4)) (.bin .mul .i64 (.var 16) (.var 14)))) (.cons (.int .i64 (.var 1)) (.cons (.int .i64 (.var 9)) (.cons (.int .i64 (.var 3)) (.cons (.int .i64 (.var 2)) (.cons (.bool (.var 12)) .nil)))))))) 56)
   (.again 0 [(.i (.var 0)), (.i (.var 1)), (.i (.var 2)), (.i (.var 3)), (.i (.var 4)), (.i (.var 5)), (.i (.var 6)), (.i (.var 7)), (.i (.var 8)), (.i (.var 9)), (.i (.var 10)), (.i (.var 11)), (.b (.var 12)), (.b (.var 13)), (.i (.var 14)), (.l (.app (.var 15) (.snoc .nil (.cons (.int .i64 (.var 0)) (.cons (.int .i64 (.bin .add .i64 (.bin .add .i64 (.var 7) (.var 4)) (.bin .mul .i64 (.var 16) (.var 14)))) (.cons (.int .i64 (.var 1)) (.cons (.int .i64 (.var 9)) (.cons (.int .i64 (.var 3)) (.cons (.int .i64 (.var 2)) (.cons (.bool (.var 12)) .nil)))))))))), (.i (.bin .add .i64 (.var 16) (.lit 1)))]))
  (.req (.room (.var 15) (.snoc .nil (.cons (.int .i64 (.var 0)) (.cons (.int .i64 (.bin .add .i64 (.bin .add .i64 (.var 7) (.var 4)) (.bin .mul .i64 (.var 16) (.var 14)))) (.cons (.int .i64 (.var 1)) (.cons (.int .i64 (.var 9)) (.cons (.int .i64 (.lit 0)) (.cons (.int .i64 (.lit 0)) (.cons (.bool (.var 12)) .nil)))))))) 56)
   (.again 0 [(.i (.var 0)), (.i (.var 1)), (.i (.var 2)), (.i (.var 3)), (.i (.var 4)), (.i (.var 5)), (.i (.var 6)), (.i (.var 7)), (.i (.var 8)), (.i (.var 9)), (.i (.var 10)), (.i (.var 11)), (.b (.var 12)), (.b (.var 13)), (.i (.var 14)), (.l (.app (.var 15) (.snoc .nil (.cons (.int .i64 (.var 0)) (.cons (.int .i64 (.bin .add .i64 (.bin .add .i64 (.var 7) (.var 4)) (.bin .mul .i64 (.var 16) (.var 14)))) (.cons (.int .i64 (.var 1)) (.cons (.int .i64 (.var 9)) (.cons (.int .i64 (.lit 0)) (.cons (.int .i64 (.lit 0)) (.cons (.bool (.var 12)) .nil)))))))))), (.i (.bin .add .i64 (.var 16) (.lit 1)))])))
 (.ret (.tuple [(.own 23 (.var 15)), (.c (.int .i64 (.lit 0)))]) [.dead, .dead, .dead, .dead, .dead, .dead, .dead]))
def T21 : STree := (.call 33 [(.agg [(.int .i64 (.var 0)), (.int .i64 (.var 1)), (.int .i64 (.var 2)), (.int .i64 (.var 3)), (.int .i64 (.var 4)), (.int .i64 (.var 5)), (.bool (.var 6))])] (.c (.bool (.var 13))) [.dead] 13 [.bool]
 (.branch (.not (.var 13))
 (.ret (.tuple [(.own 23 .nil), (.c (.int .i64 (.lit 5)))]) [.dead, .dead, .dead, .dead, .dead, .dead, .dead])
 (.branch (.cmp .neq (.var 0) (.lit 1))
  (.ret (.tuple [(.own 23 .nil), (.c (.int .i64 (.lit 5)))]) [.dead, .dead, .dead, .dead, .dead, .dead, .dead])
  (.branch (.cmp .eql (.bin .and .i64 (.var 3) (.lit 2)) (.lit 0))
   (.ret (.tuple [(.own 23 .nil), (.c (.int .i64 (.lit 8)))]) [.dead, .dead, .dead, .dead, .dead, .dead, .dead])
   (.call 69 [(.c (.int .i64 (.var 7))), (.c (.int .i64 (.var 8)))] (.c (.bool (.var 14))) [.dead, .dead] 14 [.bool]
    (.branch (.not (.var 14))
    (.ret (.tuple [(.own 23 .nil), (.c (.int .i64 (.lit 1)))]) [.dead, .dead, .dead, .dead, .dead, .dead, .dead])
    (.branch (.cmp .eql (.var 7) (.lit 3))
     (.call 70 [(.c (.int .i64 (.var 10))), (.c (.int .i64 (.var 9)))] (.c (.bool (.var 15))) [.dead, .dead] 15 [.bool]
      (.branch (.not (.var 15))
      (.ret (.tuple [(.own 23 .nil), (.c (.int .i64 (.lit 1)))]) [.dead, .dead, .dead, .dead, .dead, .dead, .dead])
      (.branch (.cmp .lss (.var 12) (.lit 1))
       (.ret (.tuple [(.own 23 .nil), (.c (.int .i64 (.lit 1)))]) [.dead, .dead, .dead, .dead, .dead, .dead, .dead])
       (.branch (.cmp .gtr (.var 12) (.lit 8))
        (.ret (.tuple [(.own 23 .nil), (.c (.int .i64 (.lit 1)))]) [.dead, .dead, .dead, .dead, .dead, .dead, .dead])
        (.branch (.cmp .lss (.var 11) (.lit 0))
         (.ret (.tuple [(.own 23 .nil), (.c (.int .i64 (.lit 1)))]) [.dead, .dead, .dead, .dead, .dead, .dead, .dead])
         (.branch (.var 6)
          (.branch (.cmp .neq (.var 7) (.lit 1))
           (.branch (.cmp .neq (.var 7) (.lit 2))
            (.ret (.tuple [(.own 23 .nil), (.c (.int .i64 (.lit 5)))]) [.dead, .dead, .dead, .dead, .dead, .dead, .dead])
            (.req (.le (.lit 0) (.conv .u64 (.var 8)))
             (.req (.le (.lit 0) (.conv .u64 (.var 2)))
             (.req (.ne0 (.bin .shl .i64 (.lit 1) (.conv .u64 (.var 8))))
             (.branch (.cmp .neq (.bin .rem .i64 (.var 11) (.bin .shl .i64 (.lit 1) (.conv .u64 (.var 8)))) (.lit 0))
             (.ret (.tuple [(.own 23 .nil), (.c (.int .i64 (.lit 6)))]) [.dead, .dead, .dead, .dead, .dead, .dead, .dead])
             (.branch (.cmp .gtr (.var 11) (.bin .shl .i64 (.lit 1) (.conv .u64 (.var 2))))
              (.ret (.tuple [(.own 23 .nil), (.c (.int .i64 (.lit 6)))]) [.dead, .dead, .dead, .dead, .dead, .dead, .dead])
              (.branch (.cmp .gtr (.bin .mul .i64 (.var 12) (.bin .shl .i64 (.lit 1) (.conv .u64 (.var 8)))) (.bin .sub .i64 (.bin .shl .i64 (.lit 1) (.conv .u64 (.var 2))) (.var 11)))
               (.ret (.tuple [(.own 23 .nil), (.c (.int .i64 (.lit 6)))]) [.dead, .dead, .dead, .dead, .dead, .dead, .dead])
               (.branch (.cmp .eql (.var 7) (.lit 1))
                (.branch (.cmp .geq (.var 8) (.var 2))
                 (.ret (.tuple [(.own 23 .nil), (.c (.int .i64 (.lit 6)))]) [.dead, .dead, .dead, .dead, .dead, .dead, .dead])
                 (.loop 0 [(.i (.var 7)), (.i (.var 8)), (.i (.var 9)), (.i (.var 10)), (.i (.var 11)), (.i (.var 12)), (.i (.var 0)), (.i (.var 1)), (.i (.var 2)), (.i (.var 3)), (.i (.var 4)), (.i (.var 5)), (.b (.var 6)), (.b (.cmp .eql (.var 7) (.lit 3))), (.i (.bin .shl .i64 (.lit 1) (.conv .u64 (.var 8)))), (.l .nil), (.i (.lit 0))] 0 T21L0))
                (.loop 0 [(.i (.var 7)), (.i (.var 8)), (.i (.var 9)), (.i (.var 10)), (.i (.var 11)), (.i (.var 12)), (.i (.var 0)), (.i (.var 1)), (.i (.var 2)), (.i (.var 3)), (.i (.var 4)), (.i (.var 5)), (.b (.var 6)), (.b (.cmp .eql (.var 7) (.lit 3))), (.i (.bin .shl .i64 (.lit 1) (.conv .u64 (.var 8)))), (.l .nil), (.i (.lit 0))] 0 T21L0)))))))))
           (.req (.le (.lit 0) (.conv .u64 (.var 8)))
            (.req (.le (.lit 0) (.conv .u64 (.var 2)))
            (.req (.ne0 (.bin .shl .i64 (.lit 1) (.conv .u64 (.var 8))))
            (.branch (.cmp .neq (.bin .rem .i64 (.var 11) (.bin .shl .i64 (.lit 1) (.conv .u64 (.var 8)))) (.lit 0))
            (.ret (.tuple [(.own 23 .nil), (.c (.int .i64 (.lit 6)))]) [.dead, .dead, .dead, .dead, .dead, .dead, .dead])
            (.branch (.cmp .gtr (.var 11) (.bin .shl .i64 (.lit 1) (.conv .u64 (.var 2))))
             (.ret (.tuple [(.own 23 .nil), (.c (.int .i64 (.lit 6)))]) [.dead, .dead, .dead, .dead, .dead, .dead, .dead])
             (.branch (.cmp .gtr (.bin .mul .i64 (.var 12) (.bin .shl .i64 (.lit 1) (.conv .u64 (.var 8)))) (.bin .sub .i64 (.bin .shl .i64 (.lit 1) (.conv .u64 (.var 2))) (.var 11)))
              (.ret (.tuple [(.own 23 .nil), (.c (.int .i64 (.lit 6)))]) [.dead, .dead, .dead, .dead, .dead, .dead, .dead])
              (.branch (.cmp .eql (.var 7) (.lit 1))
               (.branch (.cmp .geq (.var 8) (.var 2))
                (.ret (.tuple [(.own 23 .nil), (.c (.int .i64 (.lit 6)))]) [.dead, .dead, .dead, .dead, .dead, .dead, .dead])
                (.loop 0 [(.i (.var 7)), (.i (.var 8)), (.i (.var 9)), (.i (.var 10)), (.i (.var 11)), (.i (.var 12)), (.i (.var 0)), (.i (.var 1)), (.i (.var 2)), (.i (.var 3)), (.i (.var 4)), (.i (.var 5)), (.b (.var 6)), (.b (.cmp .eql (.var 7) (.lit 3))), (.i (.bin .shl .i64 (.lit 1) (.conv .u64 (.var 8)))), (.l .nil), (.i (.lit 0))] 0 T21L0))
               (.loop 0 [(.i (.var 7)), (.i (.var 8)), (.i (.var 9)), (.i (.var 10)), (.i (.var 11)), (.i (.var 12)), (.i (.var 0)), (.i (.var 1)), (.i (.var 2)), (.i (.var 3)), (.i (.var 4)), (.i (.var 5)), (.b (.var 6)), (.b (.cmp .eql (.var 7) (.lit 3))), (.i (.bin .shl .i64 (.lit 1) (.conv .u64 (.var 8)))), (.l .nil), (.i (.lit 0))] 0 T21L0)))))))))
          (.req (.le (.lit 0) (.conv .u64 (.var 8)))
           (.req (.le (.lit 0) (.conv .u64 (.var 2)))
           (.req (.ne0 (.bin .shl .i64 (.lit 1) (.conv .u64 (.var 8))))
           (.branch (.cmp .neq (.bin .rem .i64 (.var 11) (.bin .shl .i64 (.lit 1) (.conv .u64 (.var 8)))) (.lit 0))
           (.ret (.tuple [(.own 23 .nil), (.c (.int .i64 (.lit 6)))]) [.dead, .dead, .dead, .dead, .dead, .dead, .dead])
           (.branch (.cmp .gtr (.var 11) (.bin .shl .i64 (.lit 1) (.conv .u64 (.var 2))))
            (.ret (.tuple [(.own 23 .nil), (.c (.int .i64 (.lit 6)))]) [.dead, .dead, .dead, .dead, .dead, .dead, .dead])
            (.branch (.cmp .gtr (.bin .mul .i64 (.var 12) (.bin .shl .i64 (.lit 1) (.conv .u64 (.var 8)))) (.bin .sub .i64 (.bin .shl .i64 (.lit 1) (.conv .u64 (.var 2))) (.var 11)))
             (.ret (.tuple [(.own 23 .nil), (.c (.int .i64 (.lit 6)))]) [.dead, .dead, .dead, .dead, .dead, .dead, .dead])
             (.branch (.cmp .eql (.var 7) (.lit 1))
              (.branch (.cmp .geq (.var 8) (.var 2))
               (.ret (.tuple [(.own 23 .nil), (.c (.int .i64 (.lit 6)))]) [.dead, .dead, .dead, .dead, .dead, .dead, .dead])
               (.loop 0 [(.i (.var 7)), (.i (.var 8)), (.i (.var 9)), (.i (.var 10)), (.i (.var 11)), (.i (.var 12)), (.i (.var 0)), (.i (.var 1)), (.i (.var 2)), (.i (.var 3)), (.i (.var 4)), (.i (.var 5)), (.b (.var 6)), (.b (.cmp .eql (.var 7) (.lit 3))), (.i (.bin .shl .i64 (.lit 1) (.conv .u64 (.var 8)))), (.l .nil), (.i (.lit 0))] 0 T21L0))
              (.loop 0 [(.i (.var 7)), (.i (.var 8)), (.i (.var 9)), (.i (.var 10)), (.i (.var 11)), (.i (.var 12)), (.i (.var 0)), (.i (.var 1)), (.i (.var 2)), (.i (.var 3)), (.i (.var 4)), (.i (.var 5)), (.b (.var 6)), (.b (.cmp .eql (.var 7) (.lit 3))), (.i (.bin .shl .i64 (.lit 1) (.conv .u64 (.var 8)))), (.l .nil), (.i (.lit 0))] 0 T21L0))))))))))))))
     (.branch (.cmp .lss (.var 12) (.lit 1))
      (.ret (.tuple [(.own 23 .nil), (.c (.int .i64 (.lit 1)))]) [.dead, .dead, .dead, .dead, .dead, .dead, .dead])
      (.branch (.cmp .gtr (.var 12) (.lit 8))
       (.ret (.tuple [(.own 23 .nil), (.c (.int .i64 (.lit 1)))]) [.dead, .dead, .dead, .dead, .dead, .dead, .dead])
       (.branch (.cmp .lss (.var 11) (.lit 0))
        (.ret (.tuple [(.own 23 .nil), (.c (.int .i64 (.lit 1)))]) [.dead, .dead, .dead, .dead, .dead, .dead, .dead])
        (.branch (.var 6)
         (.branch (.cmp .neq (.var 7) (.lit 1))
          (.branch (.cmp .neq (.var 7) (.lit 2))
           (.ret (.tuple [(.own 23 .nil), (.c (.int .i64 (.lit 5)))]) [.dead, .dead, .dead, .dead, .dead, .dead, .dead])
           (.req (.le (.lit 0) (.conv .u64 (.var 8)))
            (.req (.le (.lit 0) (.conv .u64 (.var 2)))
            (.req (.ne0 (.bin .shl .i64 (.lit 1) (.conv .u64 (.var 8))))
            (.branch (.cmp .neq (.bin .rem .i64 (.var 11) (.bin .shl .i64 (.lit 1) (.conv .u64 (.var 8)))) (.lit 0))
            (.ret (.tuple [(.own 23 .nil), (.c (.int .i64 (.lit 6)))]) [.dead, .dead, .dead, .dead, .dead, .dead, .dead])
            (.branch (.cmp .gtr (.var 11) (.bin .shl .i64 (.lit 1) (.conv .u64 (.var 2))))
             (.ret (.tuple [(.own 23 .nil), (.c (.int .i64 (.lit 6)))]) [.dead, .dead, .dead, .dead, .dead, .dead, .dead])
             (.branch (.cmp .gtr (.bin .mul .i64 (.var 12) (.bin .shl .i64 (.lit 1) (.conv .u64 (.var 8)))) (.bin .sub .i64 (.bin .shl .i64 (.lit 1) (.conv .u64 (.var 2))) (.var 11)))
              (.ret (.tuple [(.own 23 .nil), (.c (.int .i64 (.lit 6)))]) [.dead, .dead, .dead, .dead, .dead, .dead, .dead])
              (.branch (.cmp .eql (.var 7) (.lit 1))
               (.branch (.cmp .geq (.var 8) (.var 2))
                (.ret (.tuple [(.own 23 .nil), (.c (.int .i64 (.lit 6)))]) [.dead, .dead, .dead, .dead, .dead, .dead, .dead])
                (.loop 0 [(.i (.var 7)), (.i (.var 8)), (.i (.var 9)), (.i (.var 10)), (.i (.var 11)), (.i (.var 12)), (.i (.var 0)), (.i (.var 1)), (.i (.var 2)), (.i (.var 3)), (.i (.var 4)), (.i (.var 5)), (.b (.var 6)), (.b (.cmp .eql (.var 7) (.lit 3))), (.i (.bin .shl .i64 (.lit 1) (.conv .u64 (.var 8)))), (.l .nil), (.i (.lit 0))] 0 T21L0))
               (.loop 0 [(.i (.var 7)), (.i (.var 8)), (.i (.var 9)), (.i (.var 10)), (.i (.var 11)), (.i (.var 12)), (.i (.var 0)), (.i (.var 1)), (.i (.var 2)), (.i (.var 3)), (.i (.var 4)), (.i (.var 5)), (.b (.var 6)), (.b (.cmp .eql (.var 7) (.lit 3))), (.i (.bin .shl .i64 (.lit 1) (.conv .u64 (.var 8)))), (.l .nil), (.i (.lit 0))] 0 T21L0)))))))))
          (.req (.le (.lit 0) (.conv .u64 (.var 8)))
           (.req (.le (.lit 0) (.conv .u64 (.var 2)))
           (.req (.ne0 (.bin .shl .i64 (.lit 1) (.conv .u64 (.var 8))))
           (.branch (.cmp .neq (.bin .rem .i64 (.var 11) (.bin .shl .i64 (.lit 1) (.conv .u64 (.var 8)))) (.lit 0))
           (.ret (.tuple [(.own 23 .nil), (.c (.int .i64 (.lit 6)))]) [.dead, .dead, .dead, .dead, .dead, .dead, .dead])
           (.branch (.cmp .gtr (.var 11) (.bin .shl .i64 (.lit 1) (.conv .u64 (.var 2))))
            (.ret (.tuple [(.own 23 .nil), (.c (.int .i64 (.lit 6)))]) [.dead, .dead, .dead, .dead, .dead, .dead, .dead])
            (.branch (.cmp .gtr (.bin .mul .i64 (.var 12) (.bin .shl .i64 (.lit 1) (.conv .u64 (.var 8)))) (.bin .sub .i64 (.bin .shl .i64 (.lit 1) (.conv .u64 (.var 2))) (.var 11)))
             (.ret (.tuple [(.own 23 .nil), (.c (.int .i64 (.lit 6)))]) [.dead, .dead, .dead, .dead, .dead, .dead, .dead])
             (.branch (.cmp .eql (.var 7) (.lit 1))
              (.branch (.cmp .geq (.var 8) (.var 2))
               (.ret (.tuple [(.own 23 .nil), (.c (.int .i64 (.lit 6)))]) [.dead, .dead, .dead, .dead, .dead, .dead, .dead])
               (.loop 0 [(.i (.var 7)), (.i (.var 8)), (.i (.var 9)), (.i (.var 10)), (.i (.var 11)), (.i (.var 12)), (.i (.var 0)), (.i (.var 1)), (.i (.var 2)), (.i (.var 3)), (.i (.var 4)), (.i (.var 5)), (.b (.var 6)), (.b (.cmp .eql (.var 7) (.lit 3))), (.i (.bin .shl .i64 (.lit 1) (.conv .u64 (.var 8)))), (.l .nil), (.i (.lit 0))] 0 T21L0))
              (.loop 0 [(.i (.var 7)), (.i (.var 8)), (.i (.var 9)), (.i (.var 10)), (.i (.var 11)), (.i (.var 12)), (.i (.var 0)), (.i (.var 1)), (.i (.var 2)), (.i (.var 3)), (.i (.var 4)), (.i (.var 5)), (.b (.var 6)), (.b (.cmp .eql (.var 7) (.lit 3))), (.i (.bin .shl .i64 (.lit 1) (.conv .u64 (.var 8)))), (.l .nil), (.i (.lit 0))] 0 T21L0)))))))))
         (.req (.le (.lit 0) (.conv .u64 (.var 8)))
          (.req (.le (.lit 0) (.conv .u64 (.var 2)))
          (.req (.ne0 (.bin .shl .i64 (.lit 1) (.conv .u64 (.var 8))))
          (.branch (.cmp .neq (.bin .rem .i64 (.var 11) (.bin .shl .i64 (.lit 1) (.conv .u64 (.var 8)))) (.lit 0))
          (.ret (.tuple [(.own 23 .nil), (.c (.int .i64 (.lit 6)))]) [.dead, .dead, .dead, .dead, .dead, .dead, .dead])
          (.branch (.cmp .gtr (.var 11) (.bin .shl .i64 (.lit 1) (.conv .u64 (.var 2))))
           (.ret (.tuple [(.own 23 .nil), (.c (.int .i64 (.lit 6)))]) [.dead, .dead, .dead, .dead, .dead, .dead, .dead])
           (.branch (.cmp .gtr (.bin .mul .i64 (.var 12) (.bin .shl .i64 (.lit 1) (.conv .u64 (.var 8)))) (.bin .sub .i64 (.bin .shl .i64 (.lit 1) (.conv .u64 (.var 2))) (.var 11)))
            (.ret (.tuple [(.own 23 .nil), (.c (.int .i64 (.lit 6)))]) [.dead, .dead, .dead, .dead, .dead, .dead, .dead])
            (.branch (.cmp .eql (.var 7) (.lit 1))
             (.branch (.cmp .geq (.var 8) (.var 2))
              (.ret (.tuple [(.own 23 .nil), (.c (.int .i64 (.lit 6)))]) [.dead, .dead, .dead, .dead, .dead, .dead, .dead])
              (.loop 0 [(.i (.var 7)), (.i (.var 8)), (.i (.var 9)), (.i (.var 10)), (.i (.var 11)), (.i (.var 12)), (.i (.var 0)), (.i (.var 1)), (.i (.var 2)), (.i (.var 3)), (.i (.var 4)), (.i (.var 5)), (.b (.var 6)), (.b (.cmp .eql (.var 7) (.lit 3))), (.i (.bin .shl .i64 (.lit 1) (.conv .u64 (.var 8)))), (.l .nil), (.i (.lit 0))] 0 T21L0))
             (.loop 0 [(.i (.var 7)), (.i (.var 8)), (.i (.var 9)), (.i (.var 10)), (.i (.var 11)), (.i (.var 12)), (.i (.var 0)), (.i (.var 1)), (.i (.var 2)), (.i (.var 3)), (.i (.var 4)), (.i (.var 5)), (.b (.var 6)), (.b (.cmp .eql (.var 7) (.lit 3))), (.i (.bin .shl .i64 (.lit 1) (.conv .u64 (.var 8)))), (.l .nil), (.i (.lit 0))] 0 T21L0)))))))))))))))))))
theorem eq21 : evFn Try.prog E21 Try.f21 (argsAt A21 0) 13 = T21 := by kernel_rfl
noncomputable def P21 : List (FuncId × Fun) := [(33, S33), (69, S69), (70, S70)]
noncomputable def S21 : Fun := ⟨A21, R21, fun vs => T21.run Try.prog P21 A21 R21 (fun _ _ => none) (envL vs)⟩
theorem ok21 : S21.Ok Try.prog 21 := fun_ok (Φ := P21) (S := S21) mixed plain_ok Try.func21 (by kernel_rfl) (by kernel_rfl) (by kernel_rfl) eq21 (And.intro ok33 (And.intro ok69 (And.intro ok70 trivial))) (fun _ => by kernel_rfl)
noncomputable def g21 (x0 : Int) (x1 : Int) (x2 : Int) (x3 : Int) (x4 : Int) (x5 : Int) (x6 : Bool) (x7 : Int) (x8 : Int) (x9 : Int) (x10 : Int) (x11 : Int) (x12 : Int) : Option (List (List AV) × Int) := S21.g [.i x0, .i x1, .i x2, .i x3, .i x4, .i x5, .b x6, .i x7, .i x8, .i x9, .i x10, .i x11, .i x12]
noncomputable def g21L0 (k : Nat) (x0 : Int) (x1 : Int) (x2 : Int) (x3 : Int) (x4 : Int) (x5 : Int) (x6 : Int) (x7 : Int) (x8 : Int) (x9 : Int) (x10 : Int) (x11 : Int) (x12 : Bool) (x13 : Bool) (x14 : Int) (x15 : List (List AV)) (x16 : Int) : Option (List (List AV) × Int) := iterL (fun rec vs => STree.run Try.prog P21 A21 R21 T21L0 (updR (fun _ _ => none) 0 rec) (bind zeroE 0 vs)) k [.i x0, .i x1, .i x2, .i x3, .i x4, .i x5, .i x6, .i x7, .i x8, .i x9, .i x10, .i x11, .b x12, .b x13, .i x14, .l x15, .i x16]
theorem g21L0_eq (k : Nat) (x0 : Int) (x1 : Int) (x2 : Int) (x3 : Int) (x4 : Int) (x5 : Int) (x6 : Int) (x7 : Int) (x8 : Int) (x9 : Int) (x10 : Int) (x11 : Int) (x12 : Bool) (x13 : Bool) (x14 : Int) (x15 : List (List AV)) (x16 : Int) : g21L0 (k + 1) x0 x1 x2 x3 x4 x5 x6 x7 x8 x9 x10 x11 x12 x13 x14 x15 x16 =
    (if (cop .lss x16 x5) = true then
      if x13 = true then
        reqK (roomP x15 (([] : List (List AV)) ++ [[AV.val (.int .i64 x0), AV.val (.int .i64 (iop .add .i64 (iop .add .i64 x7 x4) (iop .mul .i64 x16 x14))), AV.val (.int .i64 x1), AV.val (.int .i64 x9), AV.val (.int .i64 x3), AV.val (.int .i64 x2), AV.val (.bool x12)]]) 56) <|
        g21L0 k x0 x1 x2 x3 x4 x5 x6 x7 x8 x9 x10 x11 x12 x13 x14 (x15 ++ (([] : List (List AV)) ++ [[AV.val (.int .i64 x0), AV.val (.int .i64 (iop .add .i64 (iop .add .i64 x7 x4) (iop .mul .i64 x16 x14))), AV.val (.int .i64 x1), AV.val (.int .i64 x9), AV.val (.int .i64 x3), AV.val (.int .i64 x2), AV.val (.bool x12)]])) (iop .add .i64 x16 1)
      else
        reqK (roomP x15 (([] : List (List AV)) ++ [[AV.val (.int .i64 x0), AV.val (.int .i64 (iop .add .i64 (iop .add .i64 x7 x4) (iop .mul .i64 x16 x14))), AV.val (.int .i64 x1), AV.val (.int .i64 x9), AV.val (.int .i64 0), AV.val (.int .i64 0), AV.val (.bool x12)]]) 56) <|
        g21L0 k x0 x1 x2 x3 x4 x5 x6 x7 x8 x9 x10 x11 x12 x13 x14 (x15 ++ (([] : List (List AV)) ++ [[AV.val (.int .i64 x0), AV.val (.int .i64 (iop .add .i64 (iop .add .i64 x7 x4) (iop .mul .i64 x16 x14))), AV.val (.int .i64 x1), AV.val (.int .i64 x9), AV.val (.int .i64 0), AV.val (.int .i64 0), AV.val (.bool x12)]])) (iop .add .i64 x16 1)
    else
      some (x15, 0)) := by kernel_rfl
theorem g21_eq (x0 : Int) (x1 : Int) (x2 : Int) (x3 : Int) (x4 : Int) (x5 : Int) (x6 : Bool) (x7 : Int) (x8 : Int) (x9 : Int) (x10 : Int) (x11 : Int) (x12 : Int) : g21 x0 x1 x2 x3 x4 x5 x6 x7 x8 x9 x10 x11 x12 =
    ((g33 x0 x1 x2 x3 x4 x5 x6).bind fun (r13 : Bool) =>
    if (!r13) = true then
      some (([] : List (List AV)), 5)
    else
      if (cop .neq x0 1) = true then
        some (([] : List (List AV)), 5)
      else
        if (cop .eql (iop .and .i64 x3 2) 0) = true then
          some (([] : List (List AV)), 8)
        else
          (g69 x7 x8).bind fun (r14 : Bool) =>
          if (!r14) = true then
            some (([] : List (List AV)), 1)
          else
            if (cop .eql x7 3) = true then
              (g70 x10 x9).bind fun (r15 : Bool) =>
              if (!r15) = true then
                some (([] : List (List AV)), 1)
              else
                if (cop .lss x12 1) = true then
                  some (([] : List (List AV)), 1)
                else
                  if (cop .gtr x12 8) = true then
                    some (([] : List (List AV)), 1)
                  else
                    if (cop .lss x11 0) = true then
                      some (([] : List (List AV)), 1)
                    else
                      if x6 = true then
                        if (cop .neq x7 1) = true then
                          if (cop .neq x7 2) = true then
                            some (([] : List (List AV)), 5)
                          else
                            reqK ((0 : Int) ≤ (IntKind.wrap .u64 x8)) <|
                            reqK ((0 : Int) ≤ (IntKind.wrap .u64 x2)) <|
                            reqK (((iop .shl .i64 1 (IntKind.wrap .u64 x8)) : Int) ≠ 0) <|
                            if (cop .neq (iop .rem .i64 x11 (iop .shl .i64 1 (IntKind.wrap .u64 x8))) 0) = true then
                              some (([] : List (List AV)), 6)
                            else
                              if (cop .gtr x11 (iop .shl .i64 1 (IntKind.wrap .u64 x2))) = true then
                                some (([] : List (List AV)), 6)
                              else
                                if (cop .gtr (iop .mul .i64 x12 (iop .shl .i64 1 (IntKind.wrap .u64 x8))) (iop .sub .i64 (iop .shl .i64 1 (IntKind.wrap .u64 x2)) x11)) = true then
                                  some (([] : List (List AV)), 6)
                                else
                                  if (cop .eql x7 1) = true then
                                    if (cop .geq x8 x2) = true then
                                      some (([] : List (List AV)), 6)
                                    else
                                      g21L0 FUEL x7 x8 x9 x10 x11 x12 x0 x1 x2 x3 x4 x5 x6 (cop .eql x7 3) (iop .shl .i64 1 (IntKind.wrap .u64 x8)) ([] : List (List AV)) 0
                                  else
                                    g21L0 FUEL x7 x8 x9 x10 x11 x12 x0 x1 x2 x3 x4 x5 x6 (cop .eql x7 3) (iop .shl .i64 1 (IntKind.wrap .u64 x8)) ([] : List (List AV)) 0
                        else
                          reqK ((0 : Int) ≤ (IntKind.wrap .u64 x8)) <|
                          reqK ((0 : Int) ≤ (IntKind.wrap .u64 x2)) <|
                          reqK (((iop .shl .i64 1 (IntKind.wrap .u64 x8)) : Int) ≠ 0) <|
                          if (cop .neq (iop .rem .i64 x11 (iop .shl .i64 1 (IntKind.wrap .u64 x8))) 0) = true then
                            some (([] : List (List AV)), 6)
                          else
                            if (cop .gtr x11 (iop .shl .i64 1 (IntKind.wrap .u64 x2))) = true then
                              some (([] : List (List AV)), 6)
                            else
                              if (cop .gtr (iop .mul .i64 x12 (iop .shl .i64 1 (IntKind.wrap .u64 x8))) (iop .sub .i64 (iop .shl .i64 1 (IntKind.wrap .u64 x2)) x11)) = true then
                                some (([] : List (List AV)), 6)
                              else
                                if (cop .eql x7 1) = true then
                                  if (cop .geq x8 x2) = true then
                                    some (([] : List (List AV)), 6)
                                  else
                                    g21L0 FUEL x7 x8 x9 x10 x11 x12 x0 x1 x2 x3 x4 x5 x6 (cop .eql x7 3) (iop .shl .i64 1 (IntKind.wrap .u64 x8)) ([] : List (List AV)) 0
                                else
                                  g21L0 FUEL x7 x8 x9 x10 x11 x12 x0 x1 x2 x3 x4 x5 x6 (cop .eql x7 3) (iop .shl .i64 1 (IntKind.wrap .u64 x8)) ([] : List (List AV)) 0
                      else
                        reqK ((0 : Int) ≤ (IntKind.wrap .u64 x8)) <|
                        reqK ((0 : Int) ≤ (IntKind.wrap .u64 x2)) <|
                        reqK (((iop .shl .i64 1 (IntKind.wrap .u64 x8)) : Int) ≠ 0) <|
                        if (cop .neq (iop .rem .i64 x11 (iop .shl .i64 1 (IntKind.wrap .u64 x8))) 0) = true then
                          some (([] : List (List AV)), 6)
                        else
                          if (cop .gtr x11 (iop .shl .i64 1 (IntKind.wrap .u64 x2))) = true then
                            some (([] : List (List AV)), 6)
                          else
                            if (cop .gtr (iop .mul .i64 x12 (iop .shl .i64 1 (IntKind.wrap .u64 x8))) (iop .sub .i64 (iop .shl .i64 1 (IntKind.wrap .u64 x2)) x11)) = true then
                              some (([] : List (List AV)), 6)
                            else
                              if (cop .eql x7 1) = true then
                                if (cop .geq x8 x2) = true then
                                  some (([] : List (List AV)), 6)
                                else
                                  g21L0 FUEL x7 x8 x9 x10 x11 x12 x0 x1 x2 x3 x4 x5 x6 (cop .eql x7 3) (iop .shl .i64 1 (IntKind.wrap .u64 x8)) ([] : List (List AV)) 0
                              else
                                g21L0 FUEL x7 x8 x9 x10 x11 x12 x0 x1 x2 x3 x4 x5 x6 (cop .eql x7 3) (iop .shl .i64 1 (IntKind.wrap .u64 x8)) ([] : List (List AV)) 0
            else
              if (cop .lss x12 1) = true then
                some (([] : List (List AV)), 1)
              else
                if (cop .gtr x12 8) = true then
                  some (([] : List (List AV)), 1)
                else
                  if (cop .lss x11 0) = true then
                    some (([] : List (List AV)), 1)
                  else
                    if x6 = true then
                      if (cop .neq x7 1) = true then
                        if (cop .neq x7 2) = true then
                          some (([] : List (List AV)), 5)
                        else
                          reqK ((0 : Int) ≤ (IntKind.wrap .u64 x8)) <|
                          reqK ((0 : Int) ≤ (IntKind.wrap .u64 x2)) <|
                          reqK (((iop .shl .i64 1 (IntKind.wrap .u64 x8)) : Int) ≠ 0) <|
                          if (cop .neq (iop .rem .i64 x11 (iop .shl .i64 1 (IntKind.wrap .u64 x8))) 0) = true then
                            some (([] : List (List AV)), 6)
                          else
                            if (cop .gtr x11 (iop .shl .i64 1 (IntKind.wrap .u64 x2))) = true then
                              some (([] : List (List AV)), 6)
                            else
                              if (cop .gtr (iop .mul .i64 x12 (iop .shl .i64 1 (IntKind.wrap .u64 x8))) (iop .sub .i64 (iop .shl .i64 1 (IntKind.wrap .u64 x2)) x11)) = true then
                                some (([] : List (List AV)), 6)
                              else
                                if (cop .eql x7 1) = true then
                                  if (cop .geq x8 x2) = true then
                                    some (([] : List (List AV)), 6)
                                  else
                                    g21L0 FUEL x7 x8 x9 x10 x11 x12 x0 x1 x2 x3 x4 x5 x6 (cop .eql x7 3) (iop .shl .i64 1 (IntKind.wrap .u64 x8)) ([] : List (List AV)) 0
                                else
                                  g21L0 FUEL x7 x8 x9 x10 x11 x12 x0 x1 x2 x3 x4 x5 x6 (cop .eql x7 3) (iop .shl .i64 1 (IntKind.wrap .u64 x8)) ([] : List (List AV)) 0
                      else
                        reqK ((0 : Int) ≤ (IntKind.wrap .u64 x8)) <|
                        reqK ((0 : Int) ≤ (IntKind.wrap .u64 x2)) <|
                        reqK (((iop .shl .i64 1 (IntKind.wrap .u64 x8)) : Int) ≠ 0) <|
                        if (cop .neq (iop .rem .i64 x11 (iop .shl .i64 1 (IntKind.wrap .u64 x8))) 0) = true then
                          some (([] : List (List AV)), 6)
                        else
                          if (cop .gtr x11 (iop .shl .i64 1 (IntKind.wrap .u64 x2))) = true then
                            some (([] : List (List AV)), 6)
                          else
                            if (cop .gtr (iop .mul .i64 x12 (iop .shl .i64 1 (IntKind.wrap .u64 x8))) (iop .sub .i64 (iop .shl .i64 1 (IntKind.wrap .u64 x2)) x11)) = true then
                              some (([] : List (List AV)), 6)
                            else
                              if (cop .eql x7 1) = true then
                                if (cop .geq x8 x2) = true then
                                  some (([] : List (List AV)), 6)
                                else
                                  g21L0 FUEL x7 x8 x9 x10 x11 x12 x0 x1 x2 x3 x4 x5 x6 (cop .eql x7 3) (iop .shl .i64 1 (IntKind.wrap .u64 x8)) ([] : List (List AV)) 0
                              else
                                g21L0 FUEL x7 x8 x9 x10 x11 x12 x0 x1 x2 x3 x4 x5 x6 (cop .eql x7 3) (iop .shl .i64 1 (IntKind.wrap .u64 x8)) ([] : List (List AV)) 0
                    else
                      reqK ((0 : Int) ≤ (IntKind.wrap .u64 x8)) <|
                      reqK ((0 : Int) ≤ (IntKind.wrap .u64 x2)) <|
                      reqK (((iop .shl .i64 1 (IntKind.wrap .u64 x8)) : Int) ≠ 0) <|
                      if (cop .neq (iop .rem .i64 x11 (iop .shl .i64 1 (IntKind.wrap .u64 x8))) 0) = true then
                        some (([] : List (List AV)), 6)
                      else
                        if (cop .gtr x11 (iop .shl .i64 1 (IntKind.wrap .u64 x2))) = true then
                          some (([] : List (List AV)), 6)
                        else
                          if (cop .gtr (iop .mul .i64 x12 (iop .shl .i64 1 (IntKind.wrap .u64 x8))) (iop .sub .i64 (iop .shl .i64 1 (IntKind.wrap .u64 x2)) x11)) = true then
                            some (([] : List (List AV)), 6)
                          else
                            if (cop .eql x7 1) = true then
                              if (cop .geq x8 x2) = true then
                                some (([] : List (List AV)), 6)
                              else
                                g21L0 FUEL x7 x8 x9 x10 x11 x12 x0 x1 x2 x3 x4 x5 x6 (cop .eql x7 3) (iop .shl .i64 1 (IntKind.wrap .u64 x8)) ([] : List (List AV)) 0
                            else
                              g21L0 FUEL x7 x8 x9 x10 x11 x12 x0 x1 x2 x3 x4 x5 x6 (cop .eql x7 3) (iop .shl .i64 1 (IntKind.wrap .u64 x8)) ([] : List (List AV)) 0) := by kernel_rfl

/- multikernel/multikernelref10.SameCaps -/
def E22 : Env := envG 26 [4] [(4, [(0, .c (.slice 7)), (1, .c (.slice 7)), (5, .c (.int .i64))])] []
def A22 : List AP := [.c (.slice 7), .c (.slice 7)]
def R22 : List RSh := [.c (.bool)]
def T22L0 : STree := (.branch (.cmp .lss (.var 2) (.len (.var 0)))
 (.elem (.var 0) (.var 2) [.int .i64, .int .i64, .int .i64, .int .i64, .int .i64, .int .i64, .bool] 3
  (.elem (.var 1) (.var 2) [.int .i64, .int .i64, .int .i64, .int .i64, .int .i64, .int .i64, .bool] 10
  (.branch (.not (.and (.cmp .eql (.var 3) (.var 10)) (.and (.cmp .eql (.var 4) (.var 11)) (.and (.cmp .eql (.var 5) (.var 12)) (.and (.cmp .eql (.var 6) (.var 13)) (.and (.cmp .eql (.var 7) (.var 14)) (.and (.cmp .eql (.var 8) (.var 15)) (.and (.beq (.var 9) (.var 16)) (.lit true)))))))))
  (.ret (.c (.bool (.lit false))) [.dead, .dead])
  (.again 0 [(.l (.var 0)), (.l (.var 1)), (.i (.bin .add .i64 (.var 2) (.lit 1)))]))))
 (.ret (.c (.bool (.lit true))) [.dead, .dead]))
def T22 : STree := (.branch (.cmp .neq (.len (.var 0)) (.len (.var 1)))
 (.ret (.c (.bool (.lit false))) [.dead, .dead])
 (.loop 0 [(.l (.var 0)), (.l (.var 1)), (.i (.lit 0))] 0 T22L0))
theorem eq22 : evFn Try.prog E22 Try.f22 (argsAt A22 0) 2 = T22 := by kernel_rfl
noncomputable def P22 : List (FuncId × Fun) := []
noncomputable def S22 : Fun := ⟨A22, R22, fun vs => T22.run Try.prog P22 A22 R22 (fun _ _ => none) (envL vs)⟩
theorem ok22 : S22.Ok Try.prog 22 := fun_ok (Φ := P22) (S := S22) mixed plain_ok Try.func22 (by kernel_rfl) (by kernel_rfl) (by kernel_rfl) eq22 trivial (fun _ => by kernel_rfl)
noncomputable def g22 (x0 : List (List AV)) (x1 : List (List AV)) : Option (Bool) := S22.g [.l x0, .l x1]
noncomputable def g22L0 (k : Nat) (x0 : List (List AV)) (x1 : List (List AV)) (x2 : Int) : Option (Bool) := iterL (fun rec vs => STree.run Try.prog P22 A22 R22 T22L0 (updR (fun _ _ => none) 0 rec) (bind zeroE 0 vs)) k [.l x0, .l x1, .i x2]
theorem g22L0_eq (k : Nat) (x0 : List (List AV)) (x1 : List (List AV)) (x2 : Int) : g22L0 (k + 1) x0 x1 x2 =
    (if (cop .lss x2 (List.length x0 : Int)) = true then
      elemK x0 x2 [.int .i64, .int .i64, .int .i64, .int .i64, .int .i64, .int .i64, .bool] fun (r3 : Int × Int × Int × Int × Int × Int × Bool) =>
      elemK x1 x2 [.int .i64, .int .i64, .int .i64, .int .i64, .int .i64, .int .i64, .bool] fun (r10 : Int × Int × Int × Int × Int × Int × Bool) =>
      if (!((cop .eql r3.1 r10.1) && ((cop .eql r3.2.1 r10.2.1) && ((cop .eql r3.2.2.1 r10.2.2.1) && ((cop .eql r3.2.2.2.1 r10.2.2.2.1) && ((cop .eql r3.2.2.2.2.1 r10.2.2.2.2.1) && ((cop .eql r3.2.2.2.2.2.1 r10.2.2.2.2.2.1) && ((r3.2.2.2.2.2.2 == r10.2.2.2.2.2.2) && true)))))))) = true then
        some (false)
      else
        g22L0 k x0 x1 (iop .add .i64 x2 1)
    else
      some (true)) := by kernel_rfl
theorem g22_eq (x0 : List (List AV)) (x1 : List (List AV)) : g22 x0 x1 =
    (if (cop .neq (List.length x0 : Int) (List.length x1 : Int)) = true then
      some (false)
    else
      g22L0 FUEL x0 x1 0) := by kernel_rfl

/- multikernel/multikernellaw11.CapRetypeExact -/
def E3 : Env := envG 52 [14] [] []
def A3 : List AP := [.agg [.int .i64, .int .i64, .int .i64, .int .i64, .int .i64, .int .i64, .bool], .c (.int .i64), .c (.int .i64), .c (.int .i64), .c (.int .i64), .c (.int .i64), .c (.int .i64)]
def R3 : List RSh := [.c (.bool)]
def T3 : STree := (.call 20 [(.agg [(.int .i64 (.var 0)), (.int .i64 (.var 1)), (.int .i64 (.var 2)), (.int .i64 (.var 3)), (.int .i64 (.var 4)), (.int .i64 (.var 5)), (.bool (.var 6))]), (.c (.int .i64 (.var 7))), (.c (.int .i64 (.var 8))), (.c (.int .i64 (.var 9))), (.c (.int .i64 (.var 10))), (.c (.int .i64 (.var 11))), (.c (.int .i64 (.var 12)))] (.tuple [(.own 23 (.var 13)), (.c (.int .i64 (.var 14)))]) [.dead, .dead, .dead, .dead, .dead, .dead, .dead] 13 [.own 23, .int .i64]
 (.call 21 [(.agg [(.int .i64 (.var 0)), (.int .i64 (.var 1)), (.int .i64 (.var 2)), (.int .i64 (.var 3)), (.int .i64 (.var 4)), (.int .i64 (.var 5)), (.bool (.var 6))]), (.c (.int .i64 (.var 7))), (.c (.int .i64 (.var 8))), (.c (.int .i64 (.var 9))), (.c (.int .i64 (.var 10))), (.c (.int .i64 (.var 11))), (.c (.int .i64 (.var 12)))] (.tuple [(.own 23 (.var 15)), (.c (.int .i64 (.var 16)))]) [.dead, .dead, .dead, .dead, .dead, .dead, .dead] 15 [.own 23, .int .i64]
 (.call 22 [(.c (.slice false 7 (.var 13))), (.c (.slice false 7 (.var 15)))] (.c (.bool (.var 17))) [.dead, .dead] 17 [.bool]
 (.branch (.var 17)
 (.branch (.cmp .eql (.var 14) (.var 16))
  (.call 23 [] (.c (.bool (.var 18))) [] 18 [.bool]
   (.ret (.c (.bool (.var 18))) [.dead, .dead, .dead, .dead, .dead, .dead, .dead]))
  (.ret (.c (.bool (.lit false))) [.dead, .dead, .dead, .dead, .dead, .dead, .dead]))
 (.ret (.c (.bool (.lit false))) [.dead, .dead, .dead, .dead, .dead, .dead, .dead])))))
theorem eq3 : evFn Try.prog E3 Try.f3 (argsAt A3 0) 13 = T3 := by kernel_rfl
noncomputable def P3 : List (FuncId × Fun) := [(20, S20), (21, S21), (22, S22), (23, S23)]
noncomputable def S3 : Fun := ⟨A3, R3, fun vs => T3.run Try.prog P3 A3 R3 (fun _ _ => none) (envL vs)⟩
theorem ok3 : S3.Ok Try.prog 3 := fun_ok (Φ := P3) (S := S3) mixed plain_ok Try.func3 (by kernel_rfl) (by kernel_rfl) (by kernel_rfl) eq3 (And.intro ok20 (And.intro ok21 (And.intro ok22 (And.intro ok23 trivial)))) (fun _ => by kernel_rfl)
noncomputable def g3 (x0 : Int) (x1 : Int) (x2 : Int) (x3 : Int) (x4 : Int) (x5 : Int) (x6 : Bool) (x7 : Int) (x8 : Int) (x9 : Int) (x10 : Int) (x11 : Int) (x12 : Int) : Option (Bool) := S3.g [.i x0, .i x1, .i x2, .i x3, .i x4, .i x5, .b x6, .i x7, .i x8, .i x9, .i x10, .i x11, .i x12]
theorem g3_eq (x0 : Int) (x1 : Int) (x2 : Int) (x3 : Int) (x4 : Int) (x5 : Int) (x6 : Bool) (x7 : Int) (x8 : Int) (x9 : Int) (x10 : Int) (x11 : Int) (x12 : Int) : g3 x0 x1 x2 x3 x4 x5 x6 x7 x8 x9 x10 x11 x12 =
    ((g20 x0 x1 x2 x3 x4 x5 x6 x7 x8 x9 x10 x11 x12).bind fun (r13 : List (List AV) × Int) =>
    (g21 x0 x1 x2 x3 x4 x5 x6 x7 x8 x9 x10 x11 x12).bind fun (r15 : List (List AV) × Int) =>
    (g22 r13.1 r15.1).bind fun (r17 : Bool) =>
    if r17 = true then
      if (cop .eql r13.2 r15.2) = true then
        (g23).bind fun (r18 : Bool) =>
        some (r18)
      else
        some (false)
    else
      some (false)) := by kernel_rfl

/- multikernel/multikernellaw11.CapRetypeSplits -/
def E4 : Env := envG 100 [14] [(5, [(1, .c (.int .i64)), (2, .c (.int .i64)), (3, .c (.int .i64)), (4, .c (.int .i64)), (5, .c (.int .i64)), (6, .c (.int .i64)), (7, .box [.int .i64, .int .i64, .int .i64, .int .i64, .int .i64, .int .i64, .bool]), (15, .c (.slice 7)), (17, .c (.int .i64))])] []
def A4 : List AP := [.agg [.int .i64, .int .i64, .int .i64, .int .i64, .int .i64, .int .i64, .bool], .c (.int .i64), .c (.int .i64), .c (.int .i64), .c (.int .i64), .c (.int .i64), .c (.int .i64)]
def R4 : List RSh := [.c (.bool)]
def T4L0 : STree := (.branch (.cmp .lss (.var 14) (.len (.var 13)))
 (.req (.le (.lit 0) (.conv .u64 (.var 1)))
  (.call 20 [(.agg [(.int .i64 (.var 6)), (.int .i64 (.var 7)), (.int .i64 (.var 8)), (.int .i64 (.var 9)), (.int .i64 (.var 10)), (.int .i64 (.var 11)), (.bool (.var 12))]), (.c (.int .i64 (.var 0))), (.c (.int .i64 (.var 1))), (.c (.int .i64 (.var 2))), (.c (.int .i64 (.var 3))), (.c (.int .i64 (.bin .add .i64 (.var 4) (.bin .shl .i64 (.var 14) (.conv .u64 (.var 1)))))), (.c (.int .i64 (.lit 1)))] (.tuple [(.own 23 (.var 15)), (.c (.int .i64 (.var 16)))]) [.dead, .dead, .dead, .dead, .dead, .dead, .dead] 15 [.own 23, .int .i64]
  (.branch (.cmp .neq (.var 16) (.lit 0))
  (.ret (.c (.bool (.lit false))) [.dead, .dead, .dead, .dead, .dead, .dead, .dead])
  (.branch (.cmp .neq (.len (.var 15)) (.lit 1))
   (.ret (.c (.bool (.lit false))) [.dead, .dead, .dead, .dead, .dead, .dead, .dead])
   (.elem (.var 15) (.lit 0) [.int .i64, .int .i64, .int .i64, .int .i64, .int .i64, .int .i64, .bool] 17
    (.elem (.var 13) (.var 14) [.int .i64, .int .i64, .int .i64, .int .i64, .int .i64, .int .i64, .bool] 24
    (.branch (.not (.and (.cmp .eql (.var 17) (.var 24)) (.and (.cmp .eql (.var 18) (.var 25)) (.and (.cmp .eql (.var 19) (.var 26)) (.and (.cmp .eql (.var 20) (.var 27)) (.and (.cmp .eql (.var 21) (.var 28)) (.and (.cmp .eql (.var 22) (.var 29)) (.and (.beq (.var 23) (.var 30)) (.lit true)))))))))
    (.ret (.c (.bool (.lit false))) [.dead, .dead, .dead, .dead, .dead, .dead, .dead])
    (.again 0 [(.i (.var 0)), (.i (.var 1)), (.i (.var 2)), (.i (.var 3)), (.i (.var 4)), (.i (.var 5)), (.i (.var 6)), (.i (.var 7)), (.i (.var 8)), (.i (.var 9)), (.i (.var 10)), (.i (.var 11)), (.b (.var 12)), (.l (.var 13)), (.i (.bin .add .i64 (.var 14) (.lit 1)))]))))))))
 (.call 20 [(.agg [(.int .i64 (.var 6)), (.int .i64 (.var 7)), (.int .i64 (.var 8)), (.int .i64 (.var 9)), (.int .i64 (.var 10)), (.int .i64 (.var 11)), (.bool (.var 12))]), (.c (.int .i64 (.var 0))), (.c (.int .i64 (.var 1))), (.c (.int .i64 (.var 2))), (.c (.int .i64 (.var 3))), (.c (.int .i64 (.var 4))), (.c (.int .i64 (.lit 0)))] (.tuple [(.own 23 (.var 15)), (.c (.int .i64 (.var 16)))]) [.dead, .dead, .dead, .dead, .dead, .dead, .dead] 15 [.own 23, .int .i64]
  (.branch (.cmp .eql (.len (.var 13)) (.var 5))
  (.branch (.cmp .eql (.var 16) (.lit 1))
   (.call 23 [] (.c (.bool (.var 17))) [] 17 [.bool]
    (.ret (.c (.bool (.var 17))) [.dead, .dead, .dead, .dead, .dead, .dead, .dead]))
   (.ret (.c (.bool (.lit false))) [.dead, .dead, .dead, .dead, .dead, .dead, .dead]))
  (.ret (.c (.bool (.lit false))) [.dead, .dead, .dead, .dead, .dead, .dead, .dead]))))
def T4 : STree := (.call 20 [(.agg [(.int .i64 (.var 0)), (.int .i64 (.var 1)), (.int .i64 (.var 2)), (.int .i64 (.var 3)), (.int .i64 (.var 4)), (.int .i64 (.var 5)), (.bool (.var 6))]), (.c (.int .i64 (.var 7))), (.c (.int .i64 (.var 8))), (.c (.int .i64 (.var 9))), (.c (.int .i64 (.var 10))), (.c (.int .i64 (.var 11))), (.c (.int .i64 (.var 12)))] (.tuple [(.own 23 (.var 13)), (.c (.int .i64 (.var 14)))]) [.dead, .dead, .dead, .dead, .dead, .dead, .dead] 13 [.own 23, .int .i64]
 (.branch (.cmp .neq (.var 14) (.lit 0))
 (.branch (.cmp .eql (.len (.var 13)) (.lit 0))
  (.call 23 [] (.c (.bool (.var 15))) [] 15 [.bool]
   (.ret (.c (.bool (.var 15))) [.dead, .dead, .dead, .dead, .dead, .dead, .dead]))
  (.ret (.c (.bool (.lit false))) [.dead, .dead, .dead, .dead, .dead, .dead, .dead]))
 (.loop 0 [(.i (.var 7)), (.i (.var 8)), (.i (.var 9)), (.i (.var 10)), (.i (.var 11)), (.i (.var 12)), (.i (.var 0)), (.i (.var 1)), (.i (.var 2)), (.i (.var 3)), (.i (.var 4)), (.i (.var 5)), (.b (.var 6)), (.l (.var 13)), (.i (.lit 0))] 0 T4L0)))
theorem eq4 : evFn Try.prog E4 Try.f4 (argsAt A4 0) 13 = T4 := by kernel_rfl
noncomputable def P4 : List (FuncId × Fun) := [(20, S20), (23, S23)]
noncomputable def S4 : Fun := ⟨A4, R4, fun vs => T4.run Try.prog P4 A4 R4 (fun _ _ => none) (envL vs)⟩
theorem ok4 : S4.Ok Try.prog 4 := fun_ok (Φ := P4) (S := S4) mixed plain_ok Try.func4 (by kernel_rfl) (by kernel_rfl) (by kernel_rfl) eq4 (And.intro ok20 (And.intro ok23 trivial)) (fun _ => by kernel_rfl)
noncomputable def g4 (x0 : Int) (x1 : Int) (x2 : Int) (x3 : Int) (x4 : Int) (x5 : Int) (x6 : Bool) (x7 : Int) (x8 : Int) (x9 : Int) (x10 : Int) (x11 : Int) (x12 : Int) : Option (Bool) := S4.g [.i x0, .i x1, .i x2, .i x3, .i x4, .i x5, .b x6, .i x7, .i x8, .i x9, .i x10, .i x11, .i x12]
noncomputable def g4L0 (k : Nat) (x0 : Int) (x1 : Int) (x2 : Int) (x3 : Int) (x4 : Int) (x5 : Int) (x6 : Int) (x7 : Int) (x8 : Int) (x9 : Int) (x10 : Int) (x11 : Int) (x12 : Bool) (x13 : List (List AV)) (x14 : Int) : Option (Bool) := iterL (fun rec vs => STree.run Try.prog P4 A4 R4 T4L0 (updR (fun _ _ => none) 0 rec) (bind zeroE 0 vs)) k [.i x0, .i x1, .i x2, .i x3, .i x4, .i x5, .i x6, .i x7, .i x8, .i x9, .i x10, .i x11, .b x12, .l x13, .i x14]
theorem g4L0_eq (k : Nat) (x0 : Int) (x1 : Int) (x2 : Int) (x3 : Int) (x4 : Int) (x5 : Int) (x6 : Int) (x7 : Int) (x8 : Int) (x9 : Int) (x10 : Int) (x11 : Int) (x12 : Bool) (x13 : List (List AV)) (x14 : Int) : g4L0 (k + 1) x0 x1 x2 x3 x4 x5 x6 x7 x8 x9 x10 x11 x12 x13 x14 =
    (if (cop .lss x14 (List.length x13 : Int)) = true then
      reqK ((0 : Int) ≤ (IntKind.wrap .u64 x1)) <|
      (g20 x6 x7 x8 x9 x10 x11 x12 x0 x1 x2 x3 (iop .add .i64 x4 (iop .shl .i64 x14 (IntKind.wrap .u64 x1))) 1).bind fun (r15 : List (List AV) × Int) =>
      if (cop .neq r15.2 0) = true then
        some (false)
      else
        if (cop .neq (List.length r15.1 : Int) 1) = true then
          some (false)
        else
          elemK r15.1 0 [.int .i64, .int .i64, .int .i64, .int .i64, .int .i64, .int .i64, .bool] fun (r17 : Int × Int × Int × Int × Int × Int × Bool) =>
          elemK x13 x14 [.int .i64, .int .i64, .int .i64, .int .i64, .int .i64, .int .i64, .bool] fun (r24 : Int × Int × Int × Int × Int × Int × Bool) =>
          if (!((cop .eql r17.1 r24.1) && ((cop .eql r17.2.1 r24.2.1) && ((cop .eql r17.2.2.1 r24.2.2.1) && ((cop .eql r17.2.2.2.1 r24.2.2.2.1) && ((cop .eql r17.2.2.2.2.1 r24.2.2.2.2.1) && ((cop .eql r17.2.2.2.2.2.1 r24.2.2.2.2.2.1) && ((r17.2.2.2.2.2.2 == r24.2.2.2.2.2.2) && true)))))))) = true then
            some (false)
          else
            g4L0 k x0 x1 x2 x3 x4 x5 x6 x7 x8 x9 x10 x11 x12 x13 (iop .add .i64 x14 1)
    else
      (g20 x6 x7 x8 x9 x10 x11 x12 x0 x1 x2 x3 x4 0).bind fun (r15 : List (List AV) × Int) =>
      if (cop .eql (List.length x13 : Int) x5) = true then
        if (cop .eql r15.2 1) = true then
          (g23).bind fun (r17 : Bool) =>
          some (r17)
        else
          some (false)
      else
        some (false)) := by kernel_rfl
theorem g4_eq (x0 : Int) (x1 : Int) (x2 : Int) (x3 : Int) (x4 : Int) (x5 : Int) (x6 : Bool) (x7 : Int) (x8 : Int) (x9 : Int) (x10 : Int) (x11 : Int) (x12 : Int) : g4 x0 x1 x2 x3 x4 x5 x6 x7 x8 x9 x10 x11 x12 =
    ((g20 x0 x1 x2 x3 x4 x5 x6 x7 x8 x9 x10 x11 x12).bind fun (r13 : List (List AV) × Int) =>
    if (cop .neq r13.2 0) = true then
      if (cop .eql (List.length r13.1 : Int) 0) = true then
        (g23).bind fun (r15 : Bool) =>
        some (r15)
      else
        some (false)
    else
      g4L0 FUEL x7 x8 x9 x10 x11 x12 x0 x1 x2 x3 x4 x5 x6 r13.1 0) := by kernel_rfl

/- multikernel/multikernelmake.Place -/
def E24 : Env := envG 16 [4] [] []
def A24 : List AP := [.c (.int .i64), .c (.int .i64)]
def R24 : List RSh := [.c (.int .i64)]
def T24 : STree := (.branch (.cmp .lss (.var 1) (.lit 1))
 (.ret (.c (.int .i64 (.lit 0))) [.dead, .dead])
 (.req (.ne0 (.var 1))
  (.branch (.cmp .lss (.bin .rem .i64 (.var 0) (.var 1)) (.lit 0))
  (.ret (.c (.int .i64 (.bin .add .i64 (.bin .rem .i64 (.var 0) (.var 1)) (.var 1)))) [.dead, .dead])
  (.ret (.c (.int .i64 (.bin .rem .i64 (.var 0) (.var 1)))) [.dead, .dead]))))
theorem eq24 : evFn Try.prog E24 Try.f24 (argsAt A24 0) 2 = T24 := by kernel_rfl
noncomputable def P24 : List (FuncId × Fun) := []
noncomputable def S24 : Fun := ⟨A24, R24, fun vs => T24.run Try.prog P24 A24 R24 (fun _ _ => none) (envL vs)⟩
theorem ok24 : S24.Ok Try.prog 24 := fun_ok (Φ := P24) (S := S24) mixed plain_ok Try.func24 (by kernel_rfl) (by kernel_rfl) (by kernel_rfl) eq24 trivial (fun _ => by kernel_rfl)
noncomputable def g24 (x0 : Int) (x1 : Int) : Option (Int) := S24.g [.i x0, .i x1]
theorem g24_eq (x0 : Int) (x1 : Int) : g24 x0 x1 =
    (if (cop .lss x1 1) = true then
      some (0)
    else
      reqK ((x1 : Int) ≠ 0) <|
      if (cop .lss (iop .rem .i64 x0 x1) 0) = true then
        some ((iop .add .i64 (iop .rem .i64 x0 x1) x1))
      else
        some ((iop .rem .i64 x0 x1))) := by kernel_rfl

/- multikernel/multikernellaw11.CapDevice -/
def E5 : Env := envG 66 [6] [] []
def A5 : List AP := [.c (.int .i64), .c (.int .i64), .c (.int .i64)]
def R5 : List RSh := [.c (.bool)]
def T5 : STree := (.call 24 [(.c (.int .i64 (.var 0))), (.c (.int .i64 (.lit 16)))] (.c (.int .i64 (.var 3))) [.dead, .dead] 3 [.int .i64]
 (.req (.le (.lit 0) (.lit 20))
 (.call 24 [(.c (.int .i64 (.var 1))), (.c (.int .i64 (.lit 6)))] (.c (.int .i64 (.var 4))) [.dead, .dead] 4 [.int .i64]
 (.call 24 [(.c (.int .i64 (.var 2))), (.c (.int .i64 (.lit 13)))] (.c (.int .i64 (.var 5))) [.dead, .dead] 5 [.int .i64]
 (.elem (.snoc (.snoc (.snoc (.snoc (.snoc (.snoc .nil (.cons (.int .i64 (.bin .add .i64 (.lit 6) (.var 5))) .nil)) (.cons (.int .i64 (.lit 12)) .nil)) (.cons (.int .i64 (.lit 12)) .nil)) (.cons (.int .i64 (.lit 6)) .nil)) (.cons (.int .i64 (.lit 10)) .nil)) (.cons (.int .i64 (.lit 16)) .nil)) (.bin .sub .i64 (.bin .add .i64 (.lit 1) (.var 4)) (.lit 1)) [.int .i64] 6
 (.call 20 [(.agg [(.int .i64 (.lit 1)), (.int .i64 (.bin .shl .i64 (.var 3) (.lit 20))), (.int .i64 (.lit 20)), (.int .i64 (.lit 7)), (.int .i64 (.lit 0)), (.int .i64 (.lit 0)), (.bool (.lit true))]), (.c (.int .i64 (.bin .add .i64 (.lit 1) (.var 4)))), (.c (.int .i64 (.var 6))), (.c (.int .i64 (.lit 0))), (.c (.int .i64 (.lit 32))), (.c (.int .i64 (.lit 0))), (.c (.int .i64 (.lit 1)))] (.tuple [(.own 23 (.var 7)), (.c (.int .i64 (.var 8)))]) [.dead, .dead, .dead, .dead, .dead, .dead, .dead] 7 [.own 23, .int .i64]
 (.branch (.cmp .neq (.bin .add .i64 (.lit 1) (.var 4)) (.lit 1))
 (.branch (.cmp .neq (.bin .add .i64 (.lit 1) (.var 4)) (.lit 2))
  (.branch (.cmp .eql (.var 8) (.lit 5))
   (.branch (.cmp .eql (.len (.var 7)) (.lit 0))
    (.call 23 [] (.c (.bool (.var 9))) [] 9 [.bool]
     (.ret (.c (.bool (.var 9))) [.dead, .dead, .dead]))
    (.ret (.c (.bool (.lit false))) [.dead, .dead, .dead]))
   (.ret (.c (.bool (.lit false))) [.dead, .dead, .dead]))
  (.branch (.cmp .eql (.var 8) (.lit 0))
   (.branch (.cmp .eql (.len (.var 7)) (.lit 1))
    (.elem (.var 7) (.lit 0) [.int .i64, .int .i64, .int .i64, .int .i64, .int .i64, .int .i64, .bool] 9
     (.branch (.var 15)
     (.call 23 [] (.c (.bool (.var 16))) [] 16 [.bool]
      (.ret (.c (.bool (.var 16))) [.dead, .dead, .dead]))
     (.ret (.c (.bool (.lit false))) [.dead, .dead, .dead])))
    (.ret (.c (.bool (.lit false))) [.dead, .dead, .dead]))
   (.ret (.c (.bool (.lit false))) [.dead, .dead, .dead])))
 (.branch (.cmp .eql (.var 8) (.lit 0))
  (.branch (.cmp .eql (.len (.var 7)) (.lit 1))
   (.elem (.var 7) (.lit 0) [.int .i64, .int .i64, .int .i64, .int .i64, .int .i64, .int .i64, .bool] 9
    (.branch (.var 15)
    (.call 23 [] (.c (.bool (.var 16))) [] 16 [.bool]
     (.ret (.c (.bool (.var 16))) [.dead, .dead, .dead]))
    (.ret (.c (.bool (.lit false))) [.dead, .dead, .dead])))
   (.ret (.c (.bool (.lit false))) [.dead, .dead, .dead]))
  (.ret (.c (.bool (.lit false))) [.dead, .dead, .dead])))))))))
theorem eq5 : evFn Try.prog E5 Try.f5 (argsAt A5 0) 3 = T5 := by kernel_rfl
noncomputable def P5 : List (FuncId × Fun) := [(24, S24), (20, S20), (23, S23)]
noncomputable def S5 : Fun := ⟨A5, R5, fun vs => T5.run Try.prog P5 A5 R5 (fun _ _ => none) (envL vs)⟩
theorem ok5 : S5.Ok Try.prog 5 := fun_ok (Φ := P5) (S := S5) mixed plain_ok Try.func5 (by kernel_rfl) (by kernel_rfl) (by kernel_rfl) eq5 (And.intro ok24 (And.intro ok20 (And.intro ok23 trivial))) (fun _ => by kernel_rfl)
noncomputable def g5 (x0 : Int) (x1 : Int) (x2 : Int) : Option (Bool) := S5.g [.i x0, .i x1, .i x2]
theorem g5_eq (x0 : Int) (x1 : Int) (x2 : Int) : g5 x0 x1 x2 =
    ((g24 x0 16).bind fun (r3 : Int) =>
    reqK ((0 : Int) ≤ 20) <|
    (g24 x1 6).bind fun (r4 : Int) =>
    (g24 x2 13).bind fun (r5 : Int) =>
    elemK ((((((([] : List (List AV)) ++ [[AV.val (.int .i64 (iop .add .i64 6 r5))]]) ++ [[AV.val (.int .i64 12)]]) ++ [[AV.val (.int .i64 12)]]) ++ [[AV.val (.int .i64 6)]]) ++ [[AV.val (.int .i64 10)]]) ++ [[AV.val (.int .i64 16)]]) (iop .sub .i64 (iop .add .i64 1 r4) 1) [.int .i64] fun (r6 : Int) =>
    (g20 1 (iop .shl .i64 r3 20) 20 7 0 0 true (iop .add .i64 1 r4) r6 0 32 0 1).bind fun (r7 : List (List AV) × Int) =>
    if (cop .neq (iop .add .i64 1 r4) 1) = true then
      if (cop .neq (iop .add .i64 1 r4) 2) = true then
        if (cop .eql r7.2 5) = true then
          if (cop .eql (List.length r7.1 : Int) 0) = true then
            (g23).bind fun (r9 : Bool) =>
            some (r9)
          else
            some (false)
        else
          some (false)
      else
        if (cop .eql r7.2 0) = true then
          if (cop .eql (List.length r7.1 : Int) 1) = true then
            elemK r7.1 0 [.int .i64, .int .i64, .int .i64, .int .i64, .int .i64, .int .i64, .bool] fun (r9 : Int × Int × Int × Int × Int × Int × Bool) =>
            if r9.2.2.2.2.2.2 = true then
              (g23).bind fun (r16 : Bool) =>
              some (r16)
            else
              some (false)
          else
            some (false)
        else
          some (false)
    else
      if (cop .eql r7.2 0) = true then
        if (cop .eql (List.length r7.1 : Int) 1) = true then
          elemK r7.1 0 [.int .i64, .int .i64, .int .i64, .int .i64, .int .i64, .int .i64, .bool] fun (r9 : Int × Int × Int × Int × Int × Int × Bool) =>
          if r9.2.2.2.2.2.2 = true then
            (g23).bind fun (r16 : Bool) =>
            some (r16)
          else
            some (false)
        else
          some (false)
      else
        some (false)) := by kernel_rfl

/- multikernel/multikernelmake.Cap -/
def E25 : Env := envG 75 [10] [] []
def A25 : List AP := [.c (.int .i64), .c (.int .i64), .c (.int .i64), .c (.int .i64), .c (.int .i64)]
def R25 : List RSh := [.agg [.int .i64, .int .i64, .int .i64, .int .i64, .int .i64, .int .i64, .bool]]
def T25 : STree := (.call 24 [(.c (.int .i64 (.var 0))), (.c (.int .i64 (.lit 6)))] (.c (.int .i64 (.var 5))) [.dead, .dead] 5 [.int .i64]
 (.call 24 [(.c (.int .i64 (.var 3))), (.c (.int .i64 (.lit 8)))] (.c (.int .i64 (.var 6))) [.dead, .dead] 6 [.int .i64]
 (.branch (.cmp .eql (.bin .add .i64 (.lit 1) (.var 5)) (.lit 1))
 (.call 24 [(.c (.int .i64 (.var 2))), (.c (.int .i64 (.lit 15)))] (.c (.int .i64 (.var 7))) [.dead, .dead] 7 [.int .i64]
  (.call 24 [(.c (.int .i64 (.var 4))), (.c (.int .i64 (.lit 4)))] (.c (.int .i64 (.var 8))) [.dead, .dead] 8 [.int .i64]
  (.req (.le (.lit 0) (.conv .u64 (.bin .sub .i64 (.lit 20) (.bin .min .i64 (.bin .add .i64 (.lit 6) (.var 7)) (.lit 20)))))
  (.call 24 [(.c (.int .i64 (.var 1))), (.c (.int .i64 (.bin .shl .i64 (.lit 1) (.conv .u64 (.bin .sub .i64 (.lit 20) (.bin .min .i64 (.bin .add .i64 (.lit 6) (.var 7)) (.lit 20)))))))] (.c (.int .i64 (.var 9))) [.dead, .dead] 9 [.int .i64]
  (.req (.le (.lit 0) (.conv .u64 (.bin .add .i64 (.lit 6) (.var 7))))
  (.ret (.agg [(.int .i64 (.bin .add .i64 (.lit 1) (.var 5))), (.int .i64 (.bin .shl .i64 (.var 9) (.conv .u64 (.bin .add .i64 (.lit 6) (.var 7))))), (.int .i64 (.bin .add .i64 (.lit 6) (.var 7))), (.int .i64 (.var 6)), (.int .i64 (.lit 0)), (.int .i64 (.lit 0)), (.bool (.cmp .eql (.var 8) (.lit 3)))]) [.dead, .dead, .dead, .dead, .dead]))))))
 (.branch (.cmp .eql (.bin .add .i64 (.lit 1) (.var 5)) (.lit 2))
  (.call 24 [(.c (.int .i64 (.var 2))), (.c (.int .i64 (.lit 9)))] (.c (.int .i64 (.var 7))) [.dead, .dead] 7 [.int .i64]
   (.call 24 [(.c (.int .i64 (.var 4))), (.c (.int .i64 (.lit 4)))] (.c (.int .i64 (.var 8))) [.dead, .dead] 8 [.int .i64]
   (.req (.le (.lit 0) (.conv .u64 (.bin .sub .i64 (.lit 20) (.bin .min .i64 (.bin .add .i64 (.lit 12) (.var 7)) (.lit 20)))))
   (.call 24 [(.c (.int .i64 (.var 1))), (.c (.int .i64 (.bin .shl .i64 (.lit 1) (.conv .u64 (.bin .sub .i64 (.lit 20) (.bin .min .i64 (.bin .add .i64 (.lit 12) (.var 7)) (.lit 20)))))))] (.c (.int .i64 (.var 9))) [.dead, .dead] 9 [.int .i64]
   (.req (.le (.lit 0) (.conv .u64 (.bin .add .i64 (.lit 12) (.var 7))))
   (.ret (.agg [(.int .i64 (.bin .add .i64 (.lit 1) (.var 5))), (.int .i64 (.bin .shl .i64 (.var 9) (.conv .u64 (.bin .add .i64 (.lit 12) (.var 7))))), (.int .i64 (.bin .add .i64 (.lit 12) (.var 7))), (.int .i64 (.var 6)), (.int .i64 (.lit 0)), (.int .i64 (.lit 0)), (.bool (.cmp .eql (.var 8) (.lit 3)))]) [.dead, .dead, .dead, .dead, .dead]))))))
  (.branch (.cmp .eql (.bin .add .i64 (.lit 1) (.var 5)) (.lit 3))
   (.call 24 [(.c (.int .i64 (.var 4))), (.c (.int .i64 (.lit 2)))] (.c (.int .i64 (.var 7))) [.dead, .dead] 7 [.int .i64]
    (.call 24 [(.c (.int .i64 (.var 2))), (.c (.int .i64 (.lit 2)))] (.c (.int .i64 (.var 8))) [.dead, .dead] 8 [.int .i64]
    (.branch (.cmp .eql (.var 8) (.lit 1))
    (.call 24 [(.c (.int .i64 (.var 4))), (.c (.int .i64 (.lit 3)))] (.c (.int .i64 (.var 9))) [.dead, .dead] 9 [.int .i64]
     (.req (.le (.lit 0) (.conv .u64 (.bin .sub .i64 (.lit 20) (.bin .min .i64 (.lit 12) (.lit 20)))))
     (.call 24 [(.c (.int .i64 (.var 1))), (.c (.int .i64 (.bin .shl .i64 (.lit 1) (.conv .u64 (.bin .sub .i64 (.lit 20) (.bin .min .i64 (.lit 12) (.lit 20)))))))] (.c (.int .i64 (.var 10))) [.dead, .dead] 10 [.int .i64]
     (.req (.le (.lit 0) (.conv .u64 (.lit 12)))
     (.ret (.agg [(.int .i64 (.bin .add .i64 (.lit 1) (.var 5))), (.int .i64 (.bin .shl .i64 (.var 10) (.conv .u64 (.lit 12)))), (.int .i64 (.lit 12)), (.int .i64 (.var 6)), (.int .i64 (.lit 39)), (.int .i64 (.var 9)), (.bool (.lit false))]) [.dead, .dead, .dead, .dead, .dead])))))
    (.req (.le (.lit 0) (.conv .u64 (.bin .sub .i64 (.lit 20) (.bin .min .i64 (.lit 12) (.lit 20)))))
     (.call 24 [(.c (.int .i64 (.var 1))), (.c (.int .i64 (.bin .shl .i64 (.lit 1) (.conv .u64 (.bin .sub .i64 (.lit 20) (.bin .min .i64 (.lit 12) (.lit 20)))))))] (.c (.int .i64 (.var 9))) [.dead, .dead] 9 [.int .i64]
     (.req (.le (.lit 0) (.conv .u64 (.lit 12)))
     (.ret (.agg [(.int .i64 (.bin .add .i64 (.lit 1) (.var 5))), (.int .i64 (.bin .shl .i64 (.var 9) (.conv .u64 (.lit 12)))), (.int .i64 (.lit 12)), (.int .i64 (.var 6)), (.int .i64 (.lit 32)), (.int .i64 (.var 7)), (.bool (.lit false))]) [.dead, .dead, .dead, .dead, .dead])))))))
   (.branch (.cmp .eql (.bin .add .i64 (.lit 1) (.var 5)) (.lit 4))
    (.req (.le (.lit 0) (.conv .u64 (.bin .sub .i64 (.lit 20) (.bin .min .i64 (.lit 6) (.lit 20)))))
     (.call 24 [(.c (.int .i64 (.var 1))), (.c (.int .i64 (.bin .shl .i64 (.lit 1) (.conv .u64 (.bin .sub .i64 (.lit 20) (.bin .min .i64 (.lit 6) (.lit 20)))))))] (.c (.int .i64 (.var 7))) [.dead, .dead] 7 [.int .i64]
     (.req (.le (.lit 0) (.conv .u64 (.lit 6)))
     (.ret (.agg [(.int .i64 (.bin .add .i64 (.lit 1) (.var 5))), (.int .i64 (.bin .shl .i64 (.var 7) (.conv .u64 (.lit 6)))), (.int .i64 (.lit 6)), (.int .i64 (.var 6)), (.int .i64 (.lit 0)), (.int .i64 (.lit 0)), (.bool (.lit false))]) [.dead, .dead, .dead, .dead, .dead]))))
    (.branch (.cmp .eql (.bin .add .i64 (.lit 1) (.var 5)) (.lit 5))
     (.req (.le (.lit 0) (.conv .u64 (.bin .sub .i64 (.lit 20) (.bin .min .i64 (.lit 10) (.lit 20)))))
      (.call 24 [(.c (.int .i64 (.var 1))), (.c (.int .i64 (.bin .shl .i64 (.lit 1) (.conv .u64 (.bin .sub .i64 (.lit 20) (.bin .min .i64 (.lit 10) (.lit 20)))))))] (.c (.int .i64 (.var 7))) [.dead, .dead] 7 [.int .i64]
      (.req (.le (.lit 0) (.conv .u64 (.lit 10)))
      (.ret (.agg [(.int .i64 (.bin .add .i64 (.lit 1) (.var 5))), (.int .i64 (.bin .shl .i64 (.var 7) (.conv .u64 (.lit 10)))), (.int .i64 (.lit 10)), (.int .i64 (.var 6)), (.int .i64 (.lit 0)), (.int .i64 (.lit 0)), (.bool (.lit false))]) [.dead, .dead, .dead, .dead, .dead]))))
     (.req (.le (.lit 0) (.conv .u64 (.bin .sub .i64 (.lit 20) (.bin .min .i64 (.lit 16) (.lit 20)))))
      (.call 24 [(.c (.int .i64 (.var 1))), (.c (.int .i64 (.bin .shl .i64 (.lit 1) (.conv .u64 (.bin .sub .i64 (.lit 20) (.bin .min .i64 (.lit 16) (.lit 20)))))))] (.c (.int .i64 (.var 7))) [.dead, .dead] 7 [.int .i64]
      (.req (.le (.lit 0) (.conv .u64 (.lit 16)))
      (.ret (.agg [(.int .i64 (.bin .add .i64 (.lit 1) (.var 5))), (.int .i64 (.bin .shl .i64 (.var 7) (.conv .u64 (.lit 16)))), (.int .i64 (.lit 16)), (.int .i64 (.var 6)), (.int .i64 (.lit 0)), (.int .i64 (.lit 0)), (.bool (.lit false))]) [.dead, .dead, .dead, .dead, .dead])))))))))))
theorem eq25 : evFn Try.prog E25 Try.f25 (argsAt A25 0) 5 = T25 := by kernel_rfl
noncomputable def P25 : List (FuncId × Fun) := [(24, S24)]
noncomputable def S25 : Fun := ⟨A25, R25, fun vs => T25.run Try.prog P25 A25 R25 (fun _ _ => none) (envL vs)⟩
theorem ok25 : S25.Ok Try.prog 25 := fun_ok (Φ := P25) (S := S25) mixed plain_ok Try.func25 (by kernel_rfl) (by kernel_rfl) (by kernel_rfl) eq25 (And.intro ok24 trivial) (fun _ => by kernel_rfl)
noncomputable def g25 (x0 : Int) (x1 : Int) (x2 : Int) (x3 : Int) (x4 : Int) : Option (Int × Int × Int × Int × Int × Int × Bool) := S25.g [.i x0, .i x1, .i x2, .i x3, .i x4]
theorem g25_eq (x0 : Int) (x1 : Int) (x2 : Int) (x3 : Int) (x4 : Int) : g25 x0 x1 x2 x3 x4 =
    ((g24 x0 6).bind fun (r5 : Int) =>
    (g24 x3 8).bind fun (r6 : Int) =>
    if (cop .eql (iop .add .i64 1 r5) 1) = true then
      (g24 x2 15).bind fun (r7 : Int) =>
      (g24 x4 4).bind fun (r8 : Int) =>
      reqK ((0 : Int) ≤ (IntKind.wrap .u64 (iop .sub .i64 20 (iop .min .i64 (iop .add .i64 6 r7) 20)))) <|
      (g24 x1 (iop .shl .i64 1 (IntKind.wrap .u64 (iop .sub .i64 20 (iop .min .i64 (iop .add .i64 6 r7) 20))))).bind fun (r9 : Int) =>
      reqK ((0 : Int) ≤ (IntKind.wrap .u64 (iop .add .i64 6 r7))) <|
      some ((iop .add .i64 1 r5), (iop .shl .i64 r9 (IntKind.wrap .u64 (iop .add .i64 6 r7))), (iop .add .i64 6 r7), r6, 0, 0, (cop .eql r8 3))
    else
      if (cop .eql (iop .add .i64 1 r5) 2) = true then
        (g24 x2 9).bind fun (r7 : Int) =>
        (g24 x4 4).bind fun (r8 : Int) =>
        reqK ((0 : Int) ≤ (IntKind.wrap .u64 (iop .sub .i64 20 (iop .min .i64 (iop .add .i64 12 r7) 20)))) <|
        (g24 x1 (iop .shl .i64 1 (IntKind.wrap .u64 (iop .sub .i64 20 (iop .min .i64 (iop .add .i64 12 r7) 20))))).bind fun (r9 : Int) =>
        reqK ((0 : Int) ≤ (IntKind.wrap .u64 (iop .add .i64 12 r7))) <|
        some ((iop .add .i64 1 r5), (iop .shl .i64 r9 (IntKind.wrap .u64 (iop .add .i64 12 r7))), (iop .add .i64 12 r7), r6, 0, 0, (cop .eql r8 3))
      else
        if (cop .eql (iop .add .i64 1 r5) 3) = true then
          (g24 x4 2).bind fun (r7 : Int) =>
          (g24 x2 2).bind fun (r8 : Int) =>
          if (cop .eql r8 1) = true then
            (g24 x4 3).bind fun (r9 : Int) =>
            reqK ((0 : Int) ≤ (IntKind.wrap .u64 (iop .sub .i64 20 (iop .min .i64 12 20)))) <|
            (g24 x1 (iop .shl .i64 1 (IntKind.wrap .u64 (iop .sub .i64 20 (iop .min .i64 12 20))))).bind fun (r10 : Int) =>
            reqK ((0 : Int) ≤ (IntKind.wrap .u64 12)) <|
            some ((iop .add .i64 1 r5), (iop .shl .i64 r10 (IntKind.wrap .u64 12)), 12, r6, 39, r9, false)
          else
            reqK ((0 : Int) ≤ (IntKind.wrap .u64 (iop .sub .i64 20 (iop .min .i64 12 20)))) <|
            (g24 x1 (iop .shl .i64 1 (IntKind.wrap .u64 (iop .sub .i64 20 (iop .min .i64 12 20))))).bind fun (r9 : Int) =>
            reqK ((0 : Int) ≤ (IntKind.wrap .u64 12)) <|
            some ((iop .add .i64 1 r5), (iop .shl .i64 r9 (IntKind.wrap .u64 12)), 12, r6, 32, r7, false)
        else
          if (cop .eql (iop .add .i64 1 r5) 4) = true then
            reqK ((0 : Int) ≤ (IntKind.wrap .u64 (iop .sub .i64 20 (iop .min .i64 6 20)))) <|
            (g24 x1 (iop .shl .i64 1 (IntKind.wrap .u64 (iop .sub .i64 20 (iop .min .i64 6 20))))).bind fun (r7 : Int) =>
            reqK ((0 : Int) ≤ (IntKind.wrap .u64 6)) <|
            some ((iop .add .i64 1 r5), (iop .shl .i64 r7 (IntKind.wrap .u64 6)), 6, r6, 0, 0, false)
          else
            if (cop .eql (iop .add .i64 1 r5) 5) = true then
              reqK ((0 : Int) ≤ (IntKind.wrap .u64 (iop .sub .i64 20 (iop .min .i64 10 20)))) <|
              (g24 x1 (iop .shl .i64 1 (IntKind.wrap .u64 (iop .sub .i64 20 (iop .min .i64 10 20))))).bind fun (r7 : Int) =>
              reqK ((0 : Int) ≤ (IntKind.wrap .u64 10)) <|
              some ((iop .add .i64 1 r5), (iop .shl .i64 r7 (IntKind.wrap .u64 10)), 10, r6, 0, 0, false)
            else
              reqK ((0 : Int) ≤ (IntKind.wrap .u64 (iop .sub .i64 20 (iop .min .i64 16 20)))) <|
              (g24 x1 (iop .shl .i64 1 (IntKind.wrap .u64 (iop .sub .i64 20 (iop .min .i64 16 20))))).bind fun (r7 : Int) =>
              reqK ((0 : Int) ≤ (IntKind.wrap .u64 16)) <|
              some ((iop .add .i64 1 r5), (iop .shl .i64 r7 (IntKind.wrap .u64 16)), 16, r6, 0, 0, false)) := by kernel_rfl

/- multikernel/multikernellaw11.CapAttenuate -/
def E6 : Env := envG 65 [14] [] []
def A6 : List AP := [.c (.int .i64), .c (.int .i64), .c (.int .i64), .c (.int .i64), .c (.int .i64), .c (.int .i64), .c (.int .i64)]
def R6 : List RSh := [.c (.bool)]
def T6 : STree := (.call 25 [(.c (.int .i64 (.var 0))), (.c (.int .i64 (.var 1))), (.c (.int .i64 (.var 2))), (.c (.int .i64 (.var 3))), (.c (.int .i64 (.var 4)))] (.agg [(.int .i64 (.var 7)), (.int .i64 (.var 8)), (.int .i64 (.var 9)), (.int .i64 (.var 10)), (.int .i64 (.var 11)), (.int .i64 (.var 12)), (.bool (.var 13))]) [.dead, .dead, .dead, .dead, .dead] 7 [.int .i64, .int .i64, .int .i64, .int .i64, .int .i64, .int .i64, .bool]
 (.call 26 [(.agg [(.int .i64 (.var 7)), (.int .i64 (.var 8)), (.int .i64 (.var 9)), (.int .i64 (.var 10)), (.int .i64 (.var 11)), (.int .i64 (.var 12)), (.bool (.var 13))]), (.c (.int .i64 (.var 5)))] (.agg [(.int .i64 (.var 14)), (.int .i64 (.var 15)), (.int .i64 (.var 16)), (.int .i64 (.var 17)), (.int .i64 (.var 18)), (.int .i64 (.var 19)), (.bool (.var 20))]) [.dead, .dead] 14 [.int .i64, .int .i64, .int .i64, .int .i64, .int .i64, .int .i64, .bool]
 (.call 26 [(.agg [(.int .i64 (.var 14)), (.int .i64 (.var 15)), (.int .i64 (.var 16)), (.int .i64 (.var 17)), (.int .i64 (.var 18)), (.int .i64 (.var 19)), (.bool (.var 20))]), (.c (.int .i64 (.var 6)))] (.agg [(.int .i64 (.var 21)), (.int .i64 (.var 22)), (.int .i64 (.var 23)), (.int .i64 (.var 24)), (.int .i64 (.var 25)), (.int .i64 (.var 26)), (.bool (.var 27))]) [.dead, .dead] 21 [.int .i64, .int .i64, .int .i64, .int .i64, .int .i64, .int .i64, .bool]
 (.call 26 [(.agg [(.int .i64 (.var 7)), (.int .i64 (.var 8)), (.int .i64 (.var 9)), (.int .i64 (.var 10)), (.int .i64 (.var 11)), (.int .i64 (.var 12)), (.bool (.var 13))]), (.c (.int .i64 (.bin .and .i64 (.var 5) (.var 6))))] (.agg [(.int .i64 (.var 28)), (.int .i64 (.var 29)), (.int .i64 (.var 30)), (.int .i64 (.var 31)), (.int .i64 (.var 32)), (.int .i64 (.var 33)), (.bool (.var 34))]) [.dead, .dead] 28 [.int .i64, .int .i64, .int .i64, .int .i64, .int .i64, .int .i64, .bool]
 (.branch (.and (.cmp .eql (.var 21) (.var 28)) (.and (.cmp .eql (.var 22) (.var 29)) (.and (.cmp .eql (.var 23) (.var 30)) (.and (.cmp .eql (.var 24) (.var 31)) (.and (.cmp .eql (.var 25) (.var 32)) (.and (.cmp .eql (.var 26) (.var 33)) (.and (.beq (.var 27) (.var 34)) (.lit true))))))))
 (.branch (.cmp .eql (.bin .and .i64 (.var 17) (.var 10)) (.var 17))
  (.call 27 [(.agg [(.int .i64 (.var 7)), (.int .i64 (.var 8)), (.int .i64 (.var 9)), (.int .i64 (.var 10)), (.int .i64 (.var 11)), (.int .i64 (.var 12)), (.bool (.var 13))]), (.agg [(.int .i64 (.var 21)), (.int .i64 (.var 22)), (.int .i64 (.var 23)), (.int .i64 (.var 24)), (.int .i64 (.var 25)), (.int .i64 (.var 26)), (.bool (.var 27))])] (.c (.bool (.var 35))) [.dead, .dead] 35 [.bool]
   (.branch (.var 35)
   (.call 28 [(.agg [(.int .i64 (.var 21)), (.int .i64 (.var 22)), (.int .i64 (.var 23)), (.int .i64 (.var 24)), (.int .i64 (.var 25)), (.int .i64 (.var 26)), (.bool (.var 27))])] (.c (.bool (.var 36))) [.dead] 36 [.bool]
    (.branch (.var 36)
    (.call 26 [(.agg [(.int .i64 (.var 7)), (.int .i64 (.var 8)), (.int .i64 (.var 9)), (.int .i64 (.var 10)), (.int .i64 (.var 11)), (.int .i64 (.var 12)), (.bool (.var 13))]), (.c (.int .i64 (.lit 7)))] (.agg [(.int .i64 (.var 37)), (.int .i64 (.var 38)), (.int .i64 (.var 39)), (.int .i64 (.var 40)), (.int .i64 (.var 41)), (.int .i64 (.var 42)), (.bool (.var 43))]) [.dead, .dead] 37 [.int .i64, .int .i64, .int .i64, .int .i64, .int .i64, .int .i64, .bool]
     (.branch (.and (.cmp .eql (.var 37) (.var 7)) (.and (.cmp .eql (.var 38) (.var 8)) (.and (.cmp .eql (.var 39) (.var 9)) (.and (.cmp .eql (.var 40) (.var 10)) (.and (.cmp .eql (.var 41) (.var 11)) (.and (.cmp .eql (.var 42) (.var 12)) (.and (.beq (.var 43) (.var 13)) (.lit true))))))))
     (.call 23 [] (.c (.bool (.var 44))) [] 44 [.bool]
      (.ret (.c (.bool (.var 44))) [.dead, .dead, .dead, .dead, .dead, .dead, .dead]))
     (.ret (.c (.bool (.lit false))) [.dead, .dead, .dead, .dead, .dead, .dead, .dead])))
    (.ret (.c (.bool (.lit false))) [.dead, .dead, .dead, .dead, .dead, .dead, .dead])))
   (.ret (.c (.bool (.lit false))) [.dead, .dead, .dead, .dead, .dead, .dead, .dead])))
  (.ret (.c (.bool (.lit false))) [.dead, .dead, .dead, .dead, .dead, .dead, .dead]))
 (.ret (.c (.bool (.lit false))) [.dead, .dead, .dead, .dead, .dead, .dead, .dead]))))))
theorem eq6 : evFn Try.prog E6 Try.f6 (argsAt A6 0) 7 = T6 := by kernel_rfl
noncomputable def P6 : List (FuncId × Fun) := [(25, S25), (26, S26), (27, S27), (28, S28), (23, S23)]
noncomputable def S6 : Fun := ⟨A6, R6, fun vs => T6.run Try.prog P6 A6 R6 (fun _ _ => none) (envL vs)⟩
theorem ok6 : S6.Ok Try.prog 6 := fun_ok (Φ := P6) (S := S6) mixed plain_ok Try.func6 (by kernel_rfl) (by kernel_rfl) (by kernel_rfl) eq6 (And.intro ok25 (And.intro ok26 (And.intro ok27 (And.intro ok28 (And.intro ok23 trivial))))) (fun _ => by kernel_rfl)
noncomputable def g6 (x0 : Int) (x1 : Int) (x2 : Int) (x3 : Int) (x4 : Int) (x5 : Int) (x6 : Int) : Option (Bool) := S6.g [.i x0, .i x1, .i x2, .i x3, .i x4, .i x5, .i x6]
theorem g6_eq (x0 : Int) (x1 : Int) (x2 : Int) (x3 : Int) (x4 : Int) (x5 : Int) (x6 : Int) : g6 x0 x1 x2 x3 x4 x5 x6 =
    ((g25 x0 x1 x2 x3 x4).bind fun (r7 : Int × Int × Int × Int × Int × Int × Bool) =>
    (g26 r7.1 r7.2.1 r7.2.2.1 r7.2.2.2.1 r7.2.2.2.2.1 r7.2.2.2.2.2.1 r7.2.2.2.2.2.2 x5).bind fun (r14 : Int × Int × Int × Int × Int × Int × Bool) =>
    (g26 r14.1 r14.2.1 r14.2.2.1 r14.2.2.2.1 r14.2.2.2.2.1 r14.2.2.2.2.2.1 r14.2.2.2.2.2.2 x6).bind fun (r21 : Int × Int × Int × Int × Int × Int × Bool) =>
    (g26 r7.1 r7.2.1 r7.2.2.1 r7.2.2.2.1 r7.2.2.2.2.1 r7.2.2.2.2.2.1 r7.2.2.2.2.2.2 (iop .and .i64 x5 x6)).bind fun (r28 : Int × Int × Int × Int × Int × Int × Bool) =>
    if ((cop .eql r21.1 r28.1) && ((cop .eql r21.2.1 r28.2.1) && ((cop .eql r21.2.2.1 r28.2.2.1) && ((cop .eql r21.2.2.2.1 r28.2.2.2.1) && ((cop .eql r21.2.2.2.2.1 r28.2.2.2.2.1) && ((cop .eql r21.2.2.2.2.2.1 r28.2.2.2.2.2.1) && ((r21.2.2.2.2.2.2 == r28.2.2.2.2.2.2) && true))))))) = true then
      if (cop .eql (iop .and .i64 r14.2.2.2.1 r7.2.2.2.1) r14.2.2.2.1) = true then
        (g27 r7.1 r7.2.1 r7.2.2.1 r7.2.2.2.1 r7.2.2.2.2.1 r7.2.2.2.2.2.1 r7.2.2.2.2.2.2 r21.1 r21.2.1 r21.2.2.1 r21.2.2.2.1 r21.2.2.2.2.1 r21.2.2.2.2.2.1 r21.2.2.2.2.2.2).bind fun (r35 : Bool) =>
        if r35 = true then
          (g28 r21.1 r21.2.1 r21.2.2.1 r21.2.2.2.1 r21.2.2.2.2.1 r21.2.2.2.2.2.1 r21.2.2.2.2.2.2).bind fun (r36 : Bool) =>
          if r36 = true then
            (g26 r7.1 r7.2.1 r7.2.2.1 r7.2.2.2.1 r7.2.2.2.2.1 r7.2.2.2.2.2.1 r7.2.2.2.2.2.2 7).bind fun (r37 : Int × Int × Int × Int × Int × Int × Bool) =>
            if ((cop .eql r37.1 r7.1) && ((cop .eql r37.2.1 r7.2.1) && ((cop .eql r37.2.2.1 r7.2.2.1) && ((cop .eql r37.2.2.2.1 r7.2.2.2.1) && ((cop .eql r37.2.2.2.2.1 r7.2.2.2.2.1) && ((cop .eql r37.2.2.2.2.2.1 r7.2.2.2.2.2.1) && ((r37.2.2.2.2.2.2 == r7.2.2.2.2.2.2) && true))))))) = true then
              (g23).bind fun (r44 : Bool) =>
              some (r44)
            else
              some (false)
          else
            some (false)
        else
          some (false)
      else
        some (false)
    else
      some (false)) := by kernel_rfl

/- multikernel/multikernelmake.Small -/
def E72 : Env := envG 20 [4] [] []
def A72 : List AP := [.c (.int .i64), .c (.int .i64)]
def R72 : List RSh := [.agg [.int .i64, .int .i64]]
def T72 : STree := (.call 24 [(.c (.int .i64 (.var 1))), (.c (.int .i64 (.lit 11)))] (.c (.int .i64 (.var 2))) [.dead, .dead] 2 [.int .i64]
 (.req (.le (.lit 0) (.conv .u64 (.bin .sub .i64 (.lit 16) (.bin .add .i64 (.lit 6) (.var 2)))))
 (.call 24 [(.c (.int .i64 (.var 0))), (.c (.int .i64 (.bin .shl .i64 (.lit 1) (.conv .u64 (.bin .sub .i64 (.lit 16) (.bin .add .i64 (.lit 6) (.var 2)))))))] (.c (.int .i64 (.var 3))) [.dead, .dead] 3 [.int .i64]
 (.req (.le (.lit 0) (.conv .u64 (.bin .add .i64 (.lit 6) (.var 2))))
 (.ret (.agg [(.int .i64 (.bin .shl .i64 (.var 3) (.conv .u64 (.bin .add .i64 (.lit 6) (.var 2))))), (.int .i64 (.bin .add .i64 (.lit 6) (.var 2)))]) [.dead, .dead])))))
theorem eq72 : evFn Try.prog E72 Try.f72 (argsAt A72 0) 2 = T72 := by kernel_rfl
noncomputable def P72 : List (FuncId × Fun) := [(24, S24)]
noncomputable def S72 : Fun := ⟨A72, R72, fun vs => T72.run Try.prog P72 A72 R72 (fun _ _ => none) (envL vs)⟩
theorem ok72 : S72.Ok Try.prog 72 := fun_ok (Φ := P72) (S := S72) mixed plain_ok Try.func72 (by kernel_rfl) (by kernel_rfl) (by kernel_rfl) eq72 (And.intro ok24 trivial) (fun _ => by kernel_rfl)
noncomputable def g72 (x0 : Int) (x1 : Int) : Option (Int × Int) := S72.g [.i x0, .i x1]
theorem g72_eq (x0 : Int) (x1 : Int) : g72 x0 x1 =
    ((g24 x1 11).bind fun (r2 : Int) =>
    reqK ((0 : Int) ≤ (IntKind.wrap .u64 (iop .sub .i64 16 (iop .add .i64 6 r2)))) <|
    (g24 x0 (iop .shl .i64 1 (IntKind.wrap .u64 (iop .sub .i64 16 (iop .add .i64 6 r2))))).bind fun (r3 : Int) =>
    reqK ((0 : Int) ≤ (IntKind.wrap .u64 (iop .add .i64 6 r2))) <|
    some ((iop .shl .i64 r3 (IntKind.wrap .u64 (iop .add .i64 6 r2))), (iop .add .i64 6 r2))) := by kernel_rfl

/- multikernel/multikernelmake.Untyped -/
def E29 : Env := envG 14 [4] [] []
def A29 : List AP := [.c (.int .i64), .c (.int .i64)]
def R29 : List RSh := [.agg [.int .i64, .int .i64, .int .i64, .int .i64, .int .i64, .int .i64, .bool]]
def T29 : STree := (.call 72 [(.c (.int .i64 (.var 0))), (.c (.int .i64 (.var 1)))] (.agg [(.int .i64 (.var 2)), (.int .i64 (.var 3))]) [.dead, .dead] 2 [.int .i64, .int .i64]
 (.ret (.agg [(.int .i64 (.lit 1)), (.int .i64 (.var 2)), (.int .i64 (.var 3)), (.int .i64 (.lit 7)), (.int .i64 (.lit 0)), (.int .i64 (.lit 0)), (.bool (.lit false))]) [.dead, .dead]))
theorem eq29 : evFn Try.prog E29 Try.f29 (argsAt A29 0) 2 = T29 := by kernel_rfl
noncomputable def P29 : List (FuncId × Fun) := [(72, S72)]
noncomputable def S29 : Fun := ⟨A29, R29, fun vs => T29.run Try.prog P29 A29 R29 (fun _ _ => none) (envL vs)⟩
theorem ok29 : S29.Ok Try.prog 29 := fun_ok (Φ := P29) (S := S29) mixed plain_ok Try.func29 (by kernel_rfl) (by kernel_rfl) (by kernel_rfl) eq29 (And.intro ok72 trivial) (fun _ => by kernel_rfl)
noncomputable def g29 (x0 : Int) (x1 : Int) : Option (Int × Int × Int × Int × Int × Int × Bool) := S29.g [.i x0, .i x1]
theorem g29_eq (x0 : Int) (x1 : Int) : g29 x0 x1 =
    ((g72 x0 x1).bind fun (r2 : Int × Int) =>
    some (1, r2.1, r2.2, 7, 0, 0, false)) := by kernel_rfl

/- multikernel/multikernellaw11.CapRetypePlaces -/
def E7 : Env := envG 173 [14] [(14, [(15, .box [.int .i64, .int .i64, .int .i64, .int .i64, .int .i64, .int .i64, .bool]), (16, .c (.int .i64)), (17, .c (.int .i64)), (18, .c (.int .i64)), (19, .c (.int .i64)), (20, .c (.slice 7)), (23, .c (.int .i64))])] []
def A7 : List AP := [.c (.int .i64), .c (.int .i64), .c (.int .i64), .c (.int .i64), .c (.int .i64), .c (.int .i64), .c (.int .i64)]
def R7 : List RSh := [.c (.bool)]
def T7L0 : STree := (.branch (.cmp .lss (.var 12) (.var 9))
 (.elem (.var 11) (.var 12) [.int .i64, .int .i64, .int .i64, .int .i64, .int .i64, .int .i64, .bool] 13
  (.call 28 [(.agg [(.int .i64 (.var 13)), (.int .i64 (.var 14)), (.int .i64 (.var 15)), (.int .i64 (.var 16)), (.int .i64 (.var 17)), (.int .i64 (.var 18)), (.bool (.var 19))])] (.c (.bool (.var 20))) [.dead] 20 [.bool]
  (.branch (.not (.var 20))
  (.ret (.c (.bool (.lit false))) [.dead, .dead, .dead, .dead, .dead, .dead, .dead])
  (.branch (.cmp .neq (.var 13) (.var 7))
   (.ret (.c (.bool (.lit false))) [.dead, .dead, .dead, .dead, .dead, .dead, .dead])
   (.branch (.cmp .neq (.var 16) (.var 3))
    (.ret (.c (.bool (.lit false))) [.dead, .dead, .dead, .dead, .dead, .dead, .dead])
    (.req (.le (.lit 0) (.conv .u64 (.var 8)))
     (.branch (.cmp .neq (.var 14) (.bin .add .i64 (.bin .add .i64 (.var 1) (.var 10)) (.bin .shl .i64 (.var 12) (.conv .u64 (.var 8)))))
     (.ret (.c (.bool (.lit false))) [.dead, .dead, .dead, .dead, .dead, .dead, .dead])
     (.branch (.cmp .neq (.var 15) (.var 8))
      (.ret (.c (.bool (.lit false))) [.dead, .dead, .dead, .dead, .dead, .dead, .dead])
      (.call 30 [(.agg [(.int .i64 (.var 0)), (.int .i64 (.var 1)), (.int .i64 (.var 2)), (.int .i64 (.var 3)), (.int .i64 (.var 4)), (.int .i64 (.var 5)), (.bool (.var 6))]), (.agg [(.int .i64 (.var 13)), (.int .i64 (.var 14)), (.int .i64 (.var 15)), (.int .i64 (.var 16)), (.int .i64 (.var 17)), (.int .i64 (.var 18)), (.bool (.var 19))])] (.c (.bool (.var 21))) [.dead, .dead] 21 [.bool]
       (.branch (.not (.var 21))
       (.ret (.c (.bool (.lit false))) [.dead, .dead, .dead, .dead, .dead, .dead, .dead])
       (.call 30 [(.agg [(.int .i64 (.var 13)), (.int .i64 (.var 14)), (.int .i64 (.var 15)), (.int .i64 (.var 16)), (.int .i64 (.var 17)), (.int .i64 (.var 18)), (.bool (.var 19))]), (.agg [(.int .i64 (.var 0)), (.int .i64 (.var 1)), (.int .i64 (.var 2)), (.int .i64 (.var 3)), (.int .i64 (.var 4)), (.int .i64 (.var 5)), (.bool (.var 6))])] (.c (.bool (.var 22))) [.dead, .dead] 22 [.bool]
        (.branch (.not (.var 22))
        (.ret (.c (.bool (.lit false))) [.dead, .dead, .dead, .dead, .dead, .dead, .dead])
        (.branch (.cmp .gtr (.var 12) (.lit 0))
         (.elem (.var 11) (.bin .sub .i64 (.var 12) (.lit 1)) [.int .i64, .int .i64, .int .i64, .int .i64, .int .i64, .int .i64, .bool] 23
          (.call 32 [(.agg [(.int .i64 (.var 23)), (.int .i64 (.var 24)), (.int .i64 (.var 25)), (.int .i64 (.var 26)), (.int .i64 (.var 27)), (.int .i64 (.var 28)), (.bool (.var 29))])] (.agg [(.int .i64 (.var 30)), (.int .i64 (.var 31))]) [.dead] 30 [.int .i64, .int .i64]
          (.call 32 [(.agg [(.int .i64 (.var 13)), (.int .i64 (.var 14)), (.int .i64 (.var 15)), (.int .i64 (.var 16)), (.int .i64 (.var 17)), (.int .i64 (.var 18)), (.bool (.var 19))])] (.agg [(.int .i64 (.var 32)), (.int .i64 (.var 33))]) [.dead] 32 [.int .i64, .int .i64]
          (.call 31 [(.agg [(.int .i64 (.var 30)), (.int .i64 (.var 31))]), (.agg [(.int .i64 (.var 32)), (.int .i64 (.var 33))])] (.c (.bool (.var 34))) [.dead, .dead] 34 [.bool]
          (.branch (.var 34)
          (.ret (.c (.bool (.lit false))) [.dead, .dead, .dead, .dead, .dead, .dead, .dead])
          (.again 0 [(.i (.var 0)), (.i (.var 1)), (.i (.var 2)), (.i (.var 3)), (.i (.var 4)), (.i (.var 5)), (.b (.var 6)), (.i (.var 7)), (.i (.var 8)), (.i (.var 9)), (.i (.var 10)), (.l (.var 11)), (.i (.bin .add .i64 (.var 12) (.lit 1)))]))))))
         (.again 0 [(.i (.var 0)), (.i (.var 1)), (.i (.var 2)), (.i (.var 3)), (.i (.var 4)), (.i (.var 5)), (.b (.var 6)), (.i (.var 7)), (.i (.var 8)), (.i (.var 9)), (.i (.var 10)), (.l (.var 11)), (.i (.bin .add .i64 (.var 12) (.lit 1)))]))))))))))))))
 (.call 23 [] (.c (.bool (.var 13))) [] 13 [.bool]
  (.ret (.c (.bool (.var 13))) [.dead, .dead, .dead, .dead, .dead, .dead, .dead])))
def T7 : STree := (.call 29 [(.c (.int .i64 (.var 0))), (.c (.int .i64 (.var 1)))] (.agg [(.int .i64 (.var 7)), (.int .i64 (.var 8)), (.int .i64 (.var 9)), (.int .i64 (.var 10)), (.int .i64 (.var 11)), (.int .i64 (.var 12)), (.bool (.var 13))]) [.dead, .dead] 7 [.int .i64, .int .i64, .int .i64, .int .i64, .int .i64, .int .i64, .bool]
 (.call 24 [(.c (.int .i64 (.var 6))), (.c (.int .i64 (.lit 8)))] (.c (.int .i64 (.var 14))) [.dead, .dead] 14 [.int .i64]
 (.call 24 [(.c (.int .i64 (.var 2))), (.c (.int .i64 (.lit 6)))] (.c (.int .i64 (.var 15))) [.dead, .dead] 15 [.int .i64]
 (.call 24 [(.c (.int .i64 (.var 3))), (.c (.int .i64 (.lit 11)))] (.c (.int .i64 (.var 16))) [.dead, .dead] 16 [.int .i64]
 (.elem (.snoc (.snoc (.snoc (.snoc (.snoc (.snoc .nil (.cons (.int .i64 (.bin .add .i64 (.lit 6) (.var 16))) .nil)) (.cons (.int .i64 (.lit 12)) .nil)) (.cons (.int .i64 (.lit 12)) .nil)) (.cons (.int .i64 (.lit 6)) .nil)) (.cons (.int .i64 (.lit 10)) .nil)) (.cons (.int .i64 (.lit 16)) .nil)) (.bin .sub .i64 (.bin .add .i64 (.lit 1) (.var 15)) (.lit 1)) [.int .i64] 17
 (.call 24 [(.c (.int .i64 (.var 5))), (.c (.int .i64 (.lit 8)))] (.c (.int .i64 (.var 18))) [.dead, .dead] 18 [.int .i64]
 (.call 24 [(.c (.int .i64 (.var 4))), (.c (.int .i64 (.lit 64)))] (.c (.int .i64 (.var 19))) [.dead, .dead] 19 [.int .i64]
 (.req (.le (.lit 0) (.conv .u64 (.var 17)))
 (.call 20 [(.agg [(.int .i64 (.var 7)), (.int .i64 (.var 8)), (.int .i64 (.var 9)), (.int .i64 (.bin .or .i64 (.var 14) (.lit 2))), (.int .i64 (.var 11)), (.int .i64 (.var 12)), (.bool (.var 13))]), (.c (.int .i64 (.bin .add .i64 (.lit 1) (.var 15)))), (.c (.int .i64 (.var 17))), (.c (.int .i64 (.lit 1))), (.c (.int .i64 (.lit 39))), (.c (.int .i64 (.bin .shl .i64 (.var 19) (.conv .u64 (.var 17))))), (.c (.int .i64 (.bin .add .i64 (.lit 1) (.var 18))))] (.tuple [(.own 23 (.var 20)), (.c (.int .i64 (.var 21)))]) [.dead, .dead, .dead, .dead, .dead, .dead, .dead] 20 [.own 23, .int .i64]
 (.req (.le (.lit 0) (.conv .u64 (.var 17)))
 (.req (.le (.lit 0) (.conv .u64 (.var 9)))
 (.branch (.cmp .leq (.bin .add .i64 (.bin .shl .i64 (.var 19) (.conv .u64 (.var 17))) (.bin .shl .i64 (.bin .add .i64 (.lit 1) (.var 18)) (.conv .u64 (.var 17)))) (.bin .shl .i64 (.lit 1) (.conv .u64 (.var 9))))
 (.branch (.cmp .eql (.bin .add .i64 (.lit 1) (.var 15)) (.lit 1))
  (.branch (.not (.not (.cmp .geq (.var 17) (.var 9))))
   (.branch (.cmp .eql (.var 21) (.lit 6))
    (.branch (.cmp .eql (.len (.var 20)) (.lit 0))
     (.call 23 [] (.c (.bool (.var 22))) [] 22 [.bool]
      (.ret (.c (.bool (.var 22))) [.dead, .dead, .dead, .dead, .dead, .dead, .dead]))
     (.ret (.c (.bool (.lit false))) [.dead, .dead, .dead, .dead, .dead, .dead, .dead]))
    (.ret (.c (.bool (.lit false))) [.dead, .dead, .dead, .dead, .dead, .dead, .dead]))
   (.branch (.cmp .neq (.var 21) (.lit 0))
    (.ret (.c (.bool (.lit false))) [.dead, .dead, .dead, .dead, .dead, .dead, .dead])
    (.branch (.cmp .neq (.len (.var 20)) (.bin .add .i64 (.lit 1) (.var 18)))
     (.ret (.c (.bool (.lit false))) [.dead, .dead, .dead, .dead, .dead, .dead, .dead])
     (.loop 0 [(.i (.var 7)), (.i (.var 8)), (.i (.var 9)), (.i (.bin .or .i64 (.var 14) (.lit 2))), (.i (.var 11)), (.i (.var 12)), (.b (.var 13)), (.i (.bin .add .i64 (.lit 1) (.var 15))), (.i (.var 17)), (.i (.bin .add .i64 (.lit 1) (.var 18))), (.i (.bin .shl .i64 (.var 19) (.conv .u64 (.var 17)))), (.l (.var 20)), (.i (.lit 0))] 0 T7L0))))
  (.branch (.cmp .neq (.var 21) (.lit 0))
   (.ret (.c (.bool (.lit false))) [.dead, .dead, .dead, .dead, .dead, .dead, .dead])
   (.branch (.cmp .neq (.len (.var 20)) (.bin .add .i64 (.lit 1) (.var 18)))
    (.ret (.c (.bool (.lit false))) [.dead, .dead, .dead, .dead, .dead, .dead, .dead])
    (.loop 0 [(.i (.var 7)), (.i (.var 8)), (.i (.var 9)), (.i (.bin .or .i64 (.var 14) (.lit 2))), (.i (.var 11)), (.i (.var 12)), (.b (.var 13)), (.i (.bin .add .i64 (.lit 1) (.var 15))), (.i (.var 17)), (.i (.bin .add .i64 (.lit 1) (.var 18))), (.i (.bin .shl .i64 (.var 19) (.conv .u64 (.var 17)))), (.l (.var 20)), (.i (.lit 0))] 0 T7L0))))
 (.branch (.cmp .eql (.var 21) (.lit 6))
  (.branch (.cmp .eql (.len (.var 20)) (.lit 0))
   (.call 23 [] (.c (.bool (.var 22))) [] 22 [.bool]
    (.ret (.c (.bool (.var 22))) [.dead, .dead, .dead, .dead, .dead, .dead, .dead]))
   (.ret (.c (.bool (.lit false))) [.dead, .dead, .dead, .dead, .dead, .dead, .dead]))
  (.ret (.c (.bool (.lit false))) [.dead, .dead, .dead, .dead, .dead, .dead, .dead]))))))))))))))
theorem eq7 : evFn Try.prog E7 Try.f7 (argsAt A7 0) 7 = T7 := by kernel_rfl
noncomputable def P7 : List (FuncId × Fun) := [(29, S29), (24, S24), (20, S20), (23, S23), (28, S28), (30, S30), (32, S32), (31, S31)]
noncomputable def S7 : Fun := ⟨A7, R7, fun vs => T7.run Try.prog P7 A7 R7 (fun _ _ => none) (envL vs)⟩
theorem ok7 : S7.Ok Try.prog 7 := fun_ok (Φ := P7) (S := S7) mixed plain_ok Try.func7 (by kernel_rfl) (by kernel_rfl) (by kernel_rfl) eq7 (And.intro ok29 (And.intro ok24 (And.intro ok20 (And.intro ok23 (And.intro ok28 (And.intro ok30 (And.intro ok32 (And.intro ok31 trivial)))))))) (fun _ => by kernel_rfl)
noncomputable def g7 (x0 : Int) (x1 : Int) (x2 : Int) (x3 : Int) (x4 : Int) (x5 : Int) (x6 : Int) : Option (Bool) := S7.g [.i x0, .i x1, .i x2, .i x3, .i x4, .i x5, .i x6]
noncomputable def g7L0 (k : Nat) (x0 : Int) (x1 : Int) (x2 : Int) (x3 : Int) (x4 : Int) (x5 : Int) (x6 : Bool) (x7 : Int) (x8 : Int) (x9 : Int) (x10 : Int) (x11 : List (List AV)) (x12 : Int) : Option (Bool) := iterL (fun rec vs => STree.run Try.prog P7 A7 R7 T7L0 (updR (fun _ _ => none) 0 rec) (bind zeroE 0 vs)) k [.i x0, .i x1, .i x2, .i x3, .i x4, .i x5, .b x6, .i x7, .i x8, .i x9, .i x10, .l x11, .i x12]
theorem g7L0_eq (k : Nat) (x0 : Int) (x1 : Int) (x2 : Int) (x3 : Int) (x4 : Int) (x5 : Int) (x6 : Bool) (x7 : Int) (x8 : Int) (x9 : Int) (x10 : Int) (x11 : List (List AV)) (x12 : Int) : g7L0 (k + 1) x0 x1 x2 x3 x4 x5 x6 x7 x8 x9 x10 x11 x12 =
    (if (cop .lss x12 x9) = true then
      elemK x11 x12 [.int .i64, .int .i64, .int .i64, .int .i64, .int .i64, .int .i64, .bool] fun (r13 : Int × Int × Int × Int × Int × Int × Bool) =>
      (g28 r13.1 r13.2.1 r13.2.2.1 r13.2.2.2.1 r13.2.2.2.2.1 r13.2.2.2.2.2.1 r13.2.2.2.2.2.2).bind fun (r20 : Bool) =>
      if (!r20) = true then
        some (false)
      else
        if (cop .neq r13.1 x7) = true then
          some (false)
        else
          if (cop .neq r13.2.2.2.1 x3) = true then
            some (false)
          else
            reqK ((0 : Int) ≤ (IntKind.wrap .u64 x8)) <|
            if (cop .neq r13.2.1 (iop .add .i64 (iop .add .i64 x1 x10) (iop .shl .i64 x12 (IntKind.wrap .u64 x8)))) = true then
              some (false)
            else
              if (cop .neq r13.2.2.1 x8) = true then
                some (false)
              else
                (g30 x0 x1 x2 x3 x4 x5 x6 r13.1 r13.2.1 r13.2.2.1 r13.2.2.2.1 r13.2.2.2.2.1 r13.2.2.2.2.2.1 r13.2.2.2.2.2.2).bind fun (r21 : Bool) =>
                if (!r21) = true then
                  some (false)
                else
                  (g30 r13.1 r13.2.1 r13.2.2.1 r13.2.2.2.1 r13.2.2.2.2.1 r13.2.2.2.2.2.1 r13.2.2.2.2.2.2 x0 x1 x2 x3 x4 x5 x6).bind fun (r22 : Bool) =>
                  if (!r22) = true then
                    some (false)
                  else
                    if (cop .gtr x12 0) = true then
                      elemK x11 (iop .sub .i64 x12 1) [.int .i64, .int .i64, .int .i64, .int .i64, .int .i64, .int .i64, .bool] fun (r23 : Int × Int × Int × Int × Int × Int × Bool) =>
                      (g32 r23.1 r23.2.1 r23.2.2.1 r23.2.2.2.1 r23.2.2.2.2.1 r23.2.2.2.2.2.1 r23.2.2.2.2.2.2).bind fun (r30 : Int × Int) =>
                      (g32 r13.1 r13.2.1 r13.2.2.1 r13.2.2.2.1 r13.2.2.2.2.1 r13.2.2.2.2.2.1 r13.2.2.2.2.2.2).bind fun (r32 : Int × Int) =>
                      (g31 r30.1 r30.2 r32.1 r32.2).bind fun (r34 : Bool) =>
                      if r34 = true then
                        some (false)
                      else
                        g7L0 k x0 x1 x2 x3 x4 x5 x6 x7 x8 x9 x10 x11 (iop .add .i64 x12 1)
                    else
                      g7L0 k x0 x1 x2 x3 x4 x5 x6 x7 x8 x9 x10 x11 (iop .add .i64 x12 1)
    else
      (g23).bind fun (r13 : Bool) =>
      some (r13)) := by kernel_rfl
theorem g7_eq (x0 : Int) (x1 : Int) (x2 : Int) (x3 : Int) (x4 : Int) (x5 : Int) (x6 : Int) : g7 x0 x1 x2 x3 x4 x5 x6 =
    ((g29 x0 x1).bind fun (r7 : Int × Int × Int × Int × Int × Int × Bool) =>
    (g24 x6 8).bind fun (r14 : Int) =>
    (g24 x2 6).bind fun (r15 : Int) =>
    (g24 x3 11).bind fun (r16 : Int) =>
    elemK ((((((([] : List (List AV)) ++ [[AV.val (.int .i64 (iop .add .i64 6 r16))]]) ++ [[AV.val (.int .i64 12)]]) ++ [[AV.val (.int .i64 12)]]) ++ [[AV.val (.int .i64 6)]]) ++ [[AV.val (.int .i64 10)]]) ++ [[AV.val (.int .i64 16)]]) (iop .sub .i64 (iop .add .i64 1 r15) 1) [.int .i64] fun (r17 : Int) =>
    (g24 x5 8).bind fun (r18 : Int) =>
    (g24 x4 64).bind fun (r19 : Int) =>
    reqK ((0 : Int) ≤ (IntKind.wrap .u64 r17)) <|
    (g20 r7.1 r7.2.1 r7.2.2.1 (iop .or .i64 r14 2) r7.2.2.2.2.1 r7.2.2.2.2.2.1 r7.2.2.2.2.2.2 (iop .add .i64 1 r15) r17 1 39 (iop .shl .i64 r19 (IntKind.wrap .u64 r17)) (iop .add .i64 1 r18)).bind fun (r20 : List (List AV) × Int) =>
    reqK ((0 : Int) ≤ (IntKind.wrap .u64 r17)) <|
    reqK ((0 : Int) ≤ (IntKind.wrap .u64 r7.2.2.1)) <|
    if (cop .leq (iop .add .i64 (iop .shl .i64 r19 (IntKind.wrap .u64 r17)) (iop .shl .i64 (iop .add .i64 1 r18) (IntKind.wrap .u64 r17))) (iop .shl .i64 1 (IntKind.wrap .u64 r7.2.2.1))) = true then
      if (cop .eql (iop .add .i64 1 r15) 1) = true then
        if (!(!(cop .geq r17 r7.2.2.1))) = true then
          if (cop .eql r20.2 6) = true then
            if (cop .eql (List.length r20.1 : Int) 0) = true then
              (g23).bind fun (r22 : Bool) =>
              some (r22)
            else
              some (false)
          else
            some (false)
        else
          if (cop .neq r20.2 0) = true then
            some (false)
          else
            if (cop .neq (List.length r20.1 : Int) (iop .add .i64 1 r18)) = true then
              some (false)
            else
              g7L0 FUEL r7.1 r7.2.1 r7.2.2.1 (iop .or .i64 r14 2) r7.2.2.2.2.1 r7.2.2.2.2.2.1 r7.2.2.2.2.2.2 (iop .add .i64 1 r15) r17 (iop .add .i64 1 r18) (iop .shl .i64 r19 (IntKind.wrap .u64 r17)) r20.1 0
      else
        if (cop .neq r20.2 0) = true then
          some (false)
        else
          if (cop .neq (List.length r20.1 : Int) (iop .add .i64 1 r18)) = true then
            some (false)
          else
            g7L0 FUEL r7.1 r7.2.1 r7.2.2.1 (iop .or .i64 r14 2) r7.2.2.2.2.1 r7.2.2.2.2.2.1 r7.2.2.2.2.2.2 (iop .add .i64 1 r15) r17 (iop .add .i64 1 r18) (iop .shl .i64 r19 (IntKind.wrap .u64 r17)) r20.1 0
    else
      if (cop .eql r20.2 6) = true then
        if (cop .eql (List.length r20.1 : Int) 0) = true then
          (g23).bind fun (r22 : Bool) =>
          some (r22)
        else
          some (false)
      else
        some (false)) := by kernel_rfl

/- multikernel/multikernellaw11.CapCoexist -/
def E9 : Env := envG 79 [22] [] []
def A9 : List AP := [.c (.int .i64), .c (.int .i64), .c (.int .i64), .c (.int .i64), .c (.int .i64), .c (.int .i64), .c (.int .i64), .c (.int .i64), .c (.int .i64), .c (.int .i64), .c (.int .i64)]
def R9 : List RSh := [.c (.bool)]
def T9 : STree := (.call 25 [(.c (.int .i64 (.var 0))), (.c (.int .i64 (.var 1))), (.c (.int .i64 (.var 2))), (.c (.int .i64 (.var 3))), (.c (.int .i64 (.var 4)))] (.agg [(.int .i64 (.var 11)), (.int .i64 (.var 12)), (.int .i64 (.var 13)), (.int .i64 (.var 14)), (.int .i64 (.var 15)), (.int .i64 (.var 16)), (.bool (.var 17))]) [.dead, .dead, .dead, .dead, .dead] 11 [.int .i64, .int .i64, .int .i64, .int .i64, .int .i64, .int .i64, .bool]
 (.call 25 [(.c (.int .i64 (.var 5))), (.c (.int .i64 (.var 6))), (.c (.int .i64 (.var 7))), (.c (.int .i64 (.var 8))), (.c (.int .i64 (.var 9)))] (.agg [(.int .i64 (.var 18)), (.int .i64 (.var 19)), (.int .i64 (.var 20)), (.int .i64 (.var 21)), (.int .i64 (.var 22)), (.int .i64 (.var 23)), (.bool (.var 24))]) [.dead, .dead, .dead, .dead, .dead] 18 [.int .i64, .int .i64, .int .i64, .int .i64, .int .i64, .int .i64, .bool]
 (.call 30 [(.agg [(.int .i64 (.var 11)), (.int .i64 (.var 12)), (.int .i64 (.var 13)), (.int .i64 (.var 14)), (.int .i64 (.var 15)), (.int .i64 (.var 16)), (.bool (.var 17))]), (.agg [(.int .i64 (.var 18)), (.int .i64 (.var 19)), (.int .i64 (.var 20)), (.int .i64 (.var 21)), (.int .i64 (.var 22)), (.int .i64 (.var 23)), (.bool (.var 24))])] (.c (.bool (.var 25))) [.dead, .dead] 25 [.bool]
 (.call 30 [(.agg [(.int .i64 (.var 18)), (.int .i64 (.var 19)), (.int .i64 (.var 20)), (.int .i64 (.var 21)), (.int .i64 (.var 22)), (.int .i64 (.var 23)), (.bool (.var 24))]), (.agg [(.int .i64 (.var 11)), (.int .i64 (.var 12)), (.int .i64 (.var 13)), (.int .i64 (.var 14)), (.int .i64 (.var 15)), (.int .i64 (.var 16)), (.bool (.var 17))])] (.c (.bool (.var 26))) [.dead, .dead] 26 [.bool]
 (.branch (.not (.beq (.var 25) (.var 26)))
 (.ret (.c (.bool (.lit false))) [.dead, .dead, .dead, .dead, .dead, .dead, .dead, .dead, .dead, .dead, .dead])
 (.call 26 [(.agg [(.int .i64 (.var 11)), (.int .i64 (.var 12)), (.int .i64 (.var 13)), (.int .i64 (.var 14)), (.int .i64 (.var 15)), (.int .i64 (.var 16)), (.bool (.var 17))]), (.c (.int .i64 (.var 10)))] (.agg [(.int .i64 (.var 27)), (.int .i64 (.var 28)), (.int .i64 (.var 29)), (.int .i64 (.var 30)), (.int .i64 (.var 31)), (.int .i64 (.var 32)), (.bool (.var 33))]) [.dead, .dead] 27 [.int .i64, .int .i64, .int .i64, .int .i64, .int .i64, .int .i64, .bool]
  (.call 30 [(.agg [(.int .i64 (.var 11)), (.int .i64 (.var 12)), (.int .i64 (.var 13)), (.int .i64 (.var 14)), (.int .i64 (.var 15)), (.int .i64 (.var 16)), (.bool (.var 17))]), (.agg [(.int .i64 (.var 27)), (.int .i64 (.var 28)), (.int .i64 (.var 29)), (.int .i64 (.var 30)), (.int .i64 (.var 31)), (.int .i64 (.var 32)), (.bool (.var 33))])] (.c (.bool (.var 34))) [.dead, .dead] 34 [.bool]
  (.branch (.not (.var 34))
  (.ret (.c (.bool (.lit false))) [.dead, .dead, .dead, .dead, .dead, .dead, .dead, .dead, .dead, .dead, .dead])
  (.branch (.cmp .eql (.var 11) (.lit 1))
   (.call 23 [] (.c (.bool (.var 35))) [] 35 [.bool]
    (.ret (.c (.bool (.var 35))) [.dead, .dead, .dead, .dead, .dead, .dead, .dead, .dead, .dead, .dead, .dead]))
   (.branch (.cmp .eql (.var 18) (.lit 1))
    (.call 23 [] (.c (.bool (.var 35))) [] 35 [.bool]
     (.ret (.c (.bool (.var 35))) [.dead, .dead, .dead, .dead, .dead, .dead, .dead, .dead, .dead, .dead, .dead]))
    (.call 28 [(.agg [(.int .i64 (.var 18)), (.int .i64 (.var 12)), (.int .i64 (.var 20)), (.int .i64 (.var 21)), (.int .i64 (.var 22)), (.int .i64 (.var 23)), (.bool (.var 24))])] (.c (.bool (.var 35))) [.dead] 35 [.bool]
     (.branch (.not (.var 35))
     (.call 23 [] (.c (.bool (.var 36))) [] 36 [.bool]
      (.ret (.c (.bool (.var 36))) [.dead, .dead, .dead, .dead, .dead, .dead, .dead, .dead, .dead, .dead, .dead]))
     (.call 30 [(.agg [(.int .i64 (.var 11)), (.int .i64 (.var 12)), (.int .i64 (.var 13)), (.int .i64 (.var 14)), (.int .i64 (.var 15)), (.int .i64 (.var 16)), (.bool (.var 17))]), (.agg [(.int .i64 (.var 18)), (.int .i64 (.var 12)), (.int .i64 (.var 20)), (.int .i64 (.var 21)), (.int .i64 (.var 22)), (.int .i64 (.var 23)), (.bool (.var 24))])] (.c (.bool (.var 36))) [.dead, .dead] 36 [.bool]
      (.call 27 [(.agg [(.int .i64 (.var 11)), (.int .i64 (.var 12)), (.int .i64 (.var 13)), (.int .i64 (.var 14)), (.int .i64 (.var 15)), (.int .i64 (.var 16)), (.bool (.var 17))]), (.agg [(.int .i64 (.var 18)), (.int .i64 (.var 12)), (.int .i64 (.var 20)), (.int .i64 (.var 21)), (.int .i64 (.var 22)), (.int .i64 (.var 23)), (.bool (.var 24))])] (.c (.bool (.var 37))) [.dead, .dead] 37 [.bool]
      (.branch (.beq (.var 36) (.var 37))
      (.call 23 [] (.c (.bool (.var 38))) [] 38 [.bool]
       (.ret (.c (.bool (.var 38))) [.dead, .dead, .dead, .dead, .dead, .dead, .dead, .dead, .dead, .dead, .dead]))
      (.ret (.c (.bool (.lit false))) [.dead, .dead, .dead, .dead, .dead, .dead, .dead, .dead, .dead, .dead, .dead]))))))))))))))))
theorem eq9 : evFn Try.prog E9 Try.f9 (argsAt A9 0) 11 = T9 := by kernel_rfl
noncomputable def P9 : List (FuncId × Fun) := [(25, S25), (30, S30), (26, S26), (28, S28), (23, S23), (27, S27)]
noncomputable def S9 : Fun := ⟨A9, R9, fun vs => T9.run Try.prog P9 A9 R9 (fun _ _ => none) (envL vs)⟩
theorem ok9 : S9.Ok Try.prog 9 := fun_ok (Φ := P9) (S := S9) mixed plain_ok Try.func9 (by kernel_rfl) (by kernel_rfl) (by kernel_rfl) eq9 (And.intro ok25 (And.intro ok30 (And.intro ok26 (And.intro ok28 (And.intro ok23 (And.intro ok27 trivial)))))) (fun _ => by kernel_rfl)
noncomputable def g9 (x0 : Int) (x1 : Int) (x2 : Int) (x3 : Int) (x4 : Int) (x5 : Int) (x6 : Int) (x7 : Int) (x8 : Int) (x9 : Int) (x10 : Int) : Option (Bool) := S9.g [.i x0, .i x1, .i x2, .i x3, .i x4, .i x5, .i x6, .i x7, .i x8, .i x9, .i x10]
theorem g9_eq (x0 : Int) (x1 : Int) (x2 : Int) (x3 : Int) (x4 : Int) (x5 : Int) (x6 : Int) (x7 : Int) (x8 : Int) (x9 : Int) (x10 : Int) : g9 x0 x1 x2 x3 x4 x5 x6 x7 x8 x9 x10 =
    ((g25 x0 x1 x2 x3 x4).bind fun (r11 : Int × Int × Int × Int × Int × Int × Bool) =>
    (g25 x5 x6 x7 x8 x9).bind fun (r18 : Int × Int × Int × Int × Int × Int × Bool) =>
    (g30 r11.1 r11.2.1 r11.2.2.1 r11.2.2.2.1 r11.2.2.2.2.1 r11.2.2.2.2.2.1 r11.2.2.2.2.2.2 r18.1 r18.2.1 r18.2.2.1 r18.2.2.2.1 r18.2.2.2.2.1 r18.2.2.2.2.2.1 r18.2.2.2.2.2.2).bind fun (r25 : Bool) =>
    (g30 r18.1 r18.2.1 r18.2.2.1 r18.2.2.2.1 r18.2.2.2.2.1 r18.2.2.2.2.2.1 r18.2.2.2.2.2.2 r11.1 r11.2.1 r11.2.2.1 r11.2.2.2.1 r11.2.2.2.2.1 r11.2.2.2.2.2.1 r11.2.2.2.2.2.2).bind fun (r26 : Bool) =>
    if (!(r25 == r26)) = true then
      some (false)
    else
      (g26 r11.1 r11.2.1 r11.2.2.1 r11.2.2.2.1 r11.2.2.2.2.1 r11.2.2.2.2.2.1 r11.2.2.2.2.2.2 x10).bind fun (r27 : Int × Int × Int × Int × Int × Int × Bool) =>
      (g30 r11.1 r11.2.1 r11.2.2.1 r11.2.2.2.1 r11.2.2.2.2.1 r11.2.2.2.2.2.1 r11.2.2.2.2.2.2 r27.1 r27.2.1 r27.2.2.1 r27.2.2.2.1 r27.2.2.2.2.1 r27.2.2.2.2.2.1 r27.2.2.2.2.2.2).bind fun (r34 : Bool) =>
      if (!r34) = true then
        some (false)
      else
        if (cop .eql r11.1 1) = true then
          (g23).bind fun (r35 : Bool) =>
          some (r35)
        else
          if (cop .eql r18.1 1) = true then
            (g23).bind fun (r35 : Bool) =>
            some (r35)
          else
            (g28 r18.1 r11.2.1 r18.2.2.1 r18.2.2.2.1 r18.2.2.2.2.1 r18.2.2.2.2.2.1 r18.2.2.2.2.2.2).bind fun (r35 : Bool) =>
            if (!r35) = true then
              (g23).bind fun (r36 : Bool) =>
              some (r36)
            else
              (g30 r11.1 r11.2.1 r11.2.2.1 r11.2.2.2.1 r11.2.2.2.2.1 r11.2.2.2.2.2.1 r11.2.2.2.2.2.2 r18.1 r11.2.1 r18.2.2.1 r18.2.2.2.1 r18.2.2.2.2.1 r18.2.2.2.2.2.1 r18.2.2.2.2.2.2).bind fun (r36 : Bool) =>
              (g27 r11.1 r11.2.1 r11.2.2.1 r11.2.2.2.1 r11.2.2.2.2.1 r11.2.2.2.2.2.1 r11.2.2.2.2.2.2 r18.1 r11.2.1 r18.2.2.1 r18.2.2.2.1 r18.2.2.2.2.1 r18.2.2.2.2.2.1 r18.2.2.2.2.2.2).bind fun (r37 : Bool) =>
              if (r36 == r37) = true then
                (g23).bind fun (r38 : Bool) =>
                some (r38)
              else
                some (false)) := by kernel_rfl

end Go.Proofs.Ytjfhdhplmibnfaa
