/- Functions of the program, as what they compute. -/
import Derived.Test.YtjfhdhplmibnfaaF12a
namespace Go.Proofs.Ytjfhdhplmibnfaa
open Go Go.AM
set_option linter.unusedVariables false
set_option maxRecDepth 100000

/- multikernel/multikernelref10.ParentOf -/
def E57 : Env := envG 28 [4, 5] [(2, [(1, .c (.slice 3)), (2, .box [.int .i64, .int .i64, .int .i64, .slice 3, .int .i64, .int .i64, .int .i64, .int .i64, .int .i64, .int .i64, .bool]), (4, .box [.int .i64, .int .i64, .int .i64]), (6, .c (.int .i64))])] []
def A57 : List AP := [.agg [.int .i64, .int .i64, .int .i64, .slice 3, .int .i64, .int .i64, .int .i64, .int .i64, .int .i64, .int .i64, .bool], .c (.slice 3)]
def R57 : List RSh := [.agg [.int .i64, .int .i64, .int .i64], .c (.bool)]
def T57L0 : STree := (.branch (.cmp .geq (.var 15) (.lit 0))
 (.elem (.var 4) (.var 15) [.int .i64, .int .i64, .int .i64] 16
  (.call 54 [(.c (.slice false 3 (.var 0))), (.agg [(.int .i64 (.var 16)), (.int .i64 (.var 17)), (.int .i64 (.var 18))])] (.c (.bool (.var 19))) [.dead, .dead] 19 [.bool]
  (.branch (.var 19)
  (.elem (.var 4) (.var 15) [.int .i64, .int .i64, .int .i64] 20
   (.ret (.tuple [(.agg [(.int .i64 (.var 20)), (.int .i64 (.var 21)), (.int .i64 (.var 22))]), (.c (.bool (.lit true)))]) [.dead, .dead]))
  (.again 0 [(.l (.var 0)), (.i (.var 1)), (.i (.var 2)), (.i (.var 3)), (.l (.var 4)), (.i (.var 5)), (.i (.var 6)), (.i (.var 7)), (.i (.var 8)), (.i (.var 9)), (.i (.var 10)), (.b (.var 11)), (.i (.var 12)), (.i (.var 13)), (.i (.var 14)), (.i (.bin .sub .i64 (.var 15) (.lit 1)))]))))
 (.ret (.tuple [(.agg [(.int .i64 (.lit 0)), (.int .i64 (.lit 0)), (.int .i64 (.lit 0))]), (.c (.bool (.lit false)))]) [.dead, .dead]))
def T57 : STree := (.loop 0 [(.l (.var 11)), (.i (.var 0)), (.i (.var 1)), (.i (.var 2)), (.l (.var 3)), (.i (.var 4)), (.i (.var 5)), (.i (.var 6)), (.i (.var 7)), (.i (.var 8)), (.i (.var 9)), (.b (.var 10)), (.i (.lit 0)), (.i (.lit 0)), (.i (.lit 0)), (.i (.bin .sub .i64 (.len (.var 3)) (.lit 1)))] 0 T57L0)
theorem eq57 : evFn Try.prog E57 Try.f57 (argsAt A57 0) 12 = T57 := by kernel_rfl
noncomputable def P57 : List (FuncId × Fun) := [(54, S54)]
noncomputable def S57 : Fun := ⟨A57, R57, fun vs => T57.run Try.prog P57 A57 R57 (fun _ _ => none) (envL vs)⟩
theorem ok57 : S57.Ok Try.prog 57 := fun_ok (Φ := P57) (S := S57) mixed plain_ok Try.func57 (by kernel_rfl) (by kernel_rfl) (by kernel_rfl) eq57 (And.intro ok54 trivial) (fun _ => by kernel_rfl)
noncomputable def g57 (x0 : Int) (x1 : Int) (x2 : Int) (x3 : List (List AV)) (x4 : Int) (x5 : Int) (x6 : Int) (x7 : Int) (x8 : Int) (x9 : Int) (x10 : Bool) (x11 : List (List AV)) : Option (Int × Int × Int × Bool) := S57.g [.i x0, .i x1, .i x2, .l x3, .i x4, .i x5, .i x6, .i x7, .i x8, .i x9, .b x10, .l x11]
noncomputable def g57L0 (k : Nat) (x0 : List (List AV)) (x1 : Int) (x2 : Int) (x3 : Int) (x4 : List (List AV)) (x5 : Int) (x6 : Int) (x7 : Int) (x8 : Int) (x9 : Int) (x10 : Int) (x11 : Bool) (x12 : Int) (x13 : Int) (x14 : Int) (x15 : Int) : Option (Int × Int × Int × Bool) := iterL (fun rec vs => STree.run Try.prog P57 A57 R57 T57L0 (updR (fun _ _ => none) 0 rec) (bind zeroE 0 vs)) k [.l x0, .i x1, .i x2, .i x3, .l x4, .i x5, .i x6, .i x7, .i x8, .i x9, .i x10, .b x11, .i x12, .i x13, .i x14, .i x15]
theorem g57L0_eq (k : Nat) (x0 : List (List AV)) (x1 : Int) (x2 : Int) (x3 : Int) (x4 : List (List AV)) (x5 : Int) (x6 : Int) (x7 : Int) (x8 : Int) (x9 : Int) (x10 : Int) (x11 : Bool) (x12 : Int) (x13 : Int) (x14 : Int) (x15 : Int) : g57L0 (k + 1) x0 x1 x2 x3 x4 x5 x6 x7 x8 x9 x10 x11 x12 x13 x14 x15 =
    (if (cop .geq x15 0) = true then
      elemK x4 x15 [.int .i64, .int .i64, .int .i64] fun (r16 : Int × Int × Int) =>
      (g54 x0 r16.1 r16.2.1 r16.2.2).bind fun (r19 : Bool) =>
      if r19 = true then
        elemK x4 x15 [.int .i64, .int .i64, .int .i64] fun (r20 : Int × Int × Int) =>
        some (r20.1, r20.2.1, r20.2.2, true)
      else
        g57L0 k x0 x1 x2 x3 x4 x5 x6 x7 x8 x9 x10 x11 x12 x13 x14 (iop .sub .i64 x15 1)
    else
      some (0, 0, 0, false)) := by kernel_rfl
theorem g57_eq (x0 : Int) (x1 : Int) (x2 : Int) (x3 : List (List AV)) (x4 : Int) (x5 : Int) (x6 : Int) (x7 : Int) (x8 : Int) (x9 : Int) (x10 : Bool) (x11 : List (List AV)) : g57 x0 x1 x2 x3 x4 x5 x6 x7 x8 x9 x10 x11 =
    (g57L0 FUEL x11 x0 x1 x2 x3 x4 x5 x6 x7 x8 x9 x10 0 0 0 (iop .sub .i64 (List.length x3 : Int) 1)) := by kernel_rfl

/- multikernel/multikernelref10.Less -/
def E61 : Env := envG 30 [4] [] []
def A61 : List AP := [.agg [.int .i64, .int .i64, .int .i64], .agg [.int .i64, .int .i64, .int .i64]]
def R61 : List RSh := [.c (.bool)]
def T61 : STree := (.branch (.cmp .neq (.var 0) (.var 3))
 (.ret (.c (.bool (.cmp .lss (.var 0) (.var 3)))) [.dead, .dead])
 (.branch (.cmp .neq (.var 1) (.var 4))
  (.ret (.c (.bool (.cmp .lss (.var 1) (.var 4)))) [.dead, .dead])
  (.ret (.c (.bool (.cmp .lss (.var 2) (.var 5)))) [.dead, .dead])))
theorem eq61 : evFn Try.prog E61 Try.f61 (argsAt A61 0) 6 = T61 := by kernel_rfl
noncomputable def P61 : List (FuncId × Fun) := []
noncomputable def S61 : Fun := ⟨A61, R61, fun vs => T61.run Try.prog P61 A61 R61 (fun _ _ => none) (envL vs)⟩
theorem ok61 : S61.Ok Try.prog 61 := fun_ok (Φ := P61) (S := S61) mixed plain_ok Try.func61 (by kernel_rfl) (by kernel_rfl) (by kernel_rfl) eq61 trivial (fun _ => by kernel_rfl)
noncomputable def g61 (x0 : Int) (x1 : Int) (x2 : Int) (x3 : Int) (x4 : Int) (x5 : Int) : Option (Bool) := S61.g [.i x0, .i x1, .i x2, .i x3, .i x4, .i x5]
theorem g61_eq (x0 : Int) (x1 : Int) (x2 : Int) (x3 : Int) (x4 : Int) (x5 : Int) : g61 x0 x1 x2 x3 x4 x5 =
    (if (cop .neq x0 x3) = true then
      some ((cop .lss x0 x3))
    else
      if (cop .neq x1 x4) = true then
        some ((cop .lss x1 x4))
      else
        some ((cop .lss x2 x5))) := by kernel_rfl

/- slices.Equal[[]multikernel/api.Id,multikernel/api.Id] -/
def E83 : Env := envG 26 [4] [(4, [(0, .c (.slice 3)), (1, .c (.slice 3)), (12, .c (.int .i64)), (13, .c (.int .i64))])] []
def A83 : List AP := [.c (.slice 3), .c (.slice 3)]
def R83 : List RSh := [.c (.bool)]
def T83L0 : STree := (.branch (.cmp .lss (.var 3) (.var 2))
 (.elem (.var 0) (.var 3) [.int .i64, .int .i64, .int .i64] 4
  (.elem (.var 1) (.var 3) [.int .i64, .int .i64, .int .i64] 7
  (.branch (.not (.and (.cmp .eql (.var 4) (.var 7)) (.and (.cmp .eql (.var 5) (.var 8)) (.and (.cmp .eql (.var 6) (.var 9)) (.lit true)))))
  (.ret (.c (.bool (.lit false))) [.dead, .dead])
  (.again 0 [(.l (.var 0)), (.l (.var 1)), (.i (.var 2)), (.i (.bin .add .i64 (.var 3) (.lit 1)))]))))
 (.ret (.c (.bool (.lit true))) [.dead, .dead]))
def T83 : STree := (.branch (.cmp .neq (.len (.var 0)) (.len (.var 1)))
 (.ret (.c (.bool (.lit false))) [.dead, .dead])
 (.loop 0 [(.l (.var 0)), (.l (.var 1)), (.i (.len (.var 0))), (.i (.lit 0))] 0 T83L0))
theorem eq83 : evFn Try.prog E83 Try.f83 (argsAt A83 0) 2 = T83 := by kernel_rfl
noncomputable def P83 : List (FuncId × Fun) := []
noncomputable def S83 : Fun := ⟨A83, R83, fun vs => T83.run Try.prog P83 A83 R83 (fun _ _ => none) (envL vs)⟩
theorem ok83 : S83.Ok Try.prog 83 := fun_ok (Φ := P83) (S := S83) mixed plain_ok Try.func83 (by kernel_rfl) (by kernel_rfl) (by kernel_rfl) eq83 trivial (fun _ => by kernel_rfl)
noncomputable def g83 (x0 : List (List AV)) (x1 : List (List AV)) : Option (Bool) := S83.g [.l x0, .l x1]
noncomputable def g83L0 (k : Nat) (x0 : List (List AV)) (x1 : List (List AV)) (x2 : Int) (x3 : Int) : Option (Bool) := iterL (fun rec vs => STree.run Try.prog P83 A83 R83 T83L0 (updR (fun _ _ => none) 0 rec) (bind zeroE 0 vs)) k [.l x0, .l x1, .i x2, .i x3]
theorem g83L0_eq (k : Nat) (x0 : List (List AV)) (x1 : List (List AV)) (x2 : Int) (x3 : Int) : g83L0 (k + 1) x0 x1 x2 x3 =
    (if (cop .lss x3 x2) = true then
      elemK x0 x3 [.int .i64, .int .i64, .int .i64] fun (r4 : Int × Int × Int) =>
      elemK x1 x3 [.int .i64, .int .i64, .int .i64] fun (r7 : Int × Int × Int) =>
      if (!((cop .eql r4.1 r7.1) && ((cop .eql r4.2.1 r7.2.1) && ((cop .eql r4.2.2 r7.2.2) && true)))) = true then
        some (false)
      else
        g83L0 k x0 x1 x2 (iop .add .i64 x3 1)
    else
      some (true)) := by kernel_rfl
theorem g83_eq (x0 : List (List AV)) (x1 : List (List AV)) : g83 x0 x1 =
    (if (cop .neq (List.length x0 : Int) (List.length x1 : Int)) = true then
      some (false)
    else
      g83L0 FUEL x0 x1 (List.length x0 : Int) 0) := by kernel_rfl

/- multikernel/node.Equal -/
def E62 : Env := envG 24 [4] [] []
def A62 : List AP := [.agg [.int .i64, .int .i64, .int .i64, .slice 3, .int .i64, .int .i64, .int .i64, .int .i64, .int .i64, .int .i64, .bool], .agg [.int .i64, .int .i64, .int .i64, .slice 3, .int .i64, .int .i64, .int .i64, .int .i64, .int .i64, .int .i64, .bool]]
def R62 : List RSh := [.c (.bool)]
def T62 : STree := (.branch (.and (.cmp .eql (.var 0) (.var 11)) (.and (.cmp .eql (.var 1) (.var 12)) (.and (.cmp .eql (.var 2) (.var 13)) (.lit true))))
 (.branch (.and (.cmp .eql (.var 4) (.var 15)) (.and (.cmp .eql (.var 5) (.var 16)) (.and (.cmp .eql (.var 6) (.var 17)) (.and (.cmp .eql (.var 7) (.var 18)) (.and (.cmp .eql (.var 8) (.var 19)) (.and (.cmp .eql (.var 9) (.var 20)) (.and (.beq (.var 10) (.var 21)) (.lit true))))))))
  (.call 83 [(.c (.slice false 3 (.var 3))), (.c (.slice false 3 (.var 14)))] (.c (.bool (.var 22))) [.dead, .dead] 22 [.bool]
   (.ret (.c (.bool (.var 22))) [.dead, .dead]))
  (.ret (.c (.bool (.lit false))) [.dead, .dead]))
 (.ret (.c (.bool (.lit false))) [.dead, .dead]))
theorem eq62 : evFn Try.prog E62 Try.f62 (argsAt A62 0) 22 = T62 := by kernel_rfl
noncomputable def P62 : List (FuncId × Fun) := [(83, S83)]
noncomputable def S62 : Fun := ⟨A62, R62, fun vs => T62.run Try.prog P62 A62 R62 (fun _ _ => none) (envL vs)⟩
theorem ok62 : S62.Ok Try.prog 62 := fun_ok (Φ := P62) (S := S62) mixed plain_ok Try.func62 (by kernel_rfl) (by kernel_rfl) (by kernel_rfl) eq62 (And.intro ok83 trivial) (fun _ => by kernel_rfl)
noncomputable def g62 (x0 : Int) (x1 : Int) (x2 : Int) (x3 : List (List AV)) (x4 : Int) (x5 : Int) (x6 : Int) (x7 : Int) (x8 : Int) (x9 : Int) (x10 : Bool) (x11 : Int) (x12 : Int) (x13 : Int) (x14 : List (List AV)) (x15 : Int) (x16 : Int) (x17 : Int) (x18 : Int) (x19 : Int) (x20 : Int) (x21 : Bool) : Option (Bool) := S62.g [.i x0, .i x1, .i x2, .l x3, .i x4, .i x5, .i x6, .i x7, .i x8, .i x9, .b x10, .i x11, .i x12, .i x13, .l x14, .i x15, .i x16, .i x17, .i x18, .i x19, .i x20, .b x21]
theorem g62_eq (x0 : Int) (x1 : Int) (x2 : Int) (x3 : List (List AV)) (x4 : Int) (x5 : Int) (x6 : Int) (x7 : Int) (x8 : Int) (x9 : Int) (x10 : Bool) (x11 : Int) (x12 : Int) (x13 : Int) (x14 : List (List AV)) (x15 : Int) (x16 : Int) (x17 : Int) (x18 : Int) (x19 : Int) (x20 : Int) (x21 : Bool) : g62 x0 x1 x2 x3 x4 x5 x6 x7 x8 x9 x10 x11 x12 x13 x14 x15 x16 x17 x18 x19 x20 x21 =
    (if ((cop .eql x0 x11) && ((cop .eql x1 x12) && ((cop .eql x2 x13) && true))) = true then
      if ((cop .eql x4 x15) && ((cop .eql x5 x16) && ((cop .eql x6 x17) && ((cop .eql x7 x18) && ((cop .eql x8 x19) && ((cop .eql x9 x20) && ((x10 == x21) && true))))))) = true then
        (g83 x3 x14).bind fun (r22 : Bool) =>
        some (r22)
      else
        some (false)
    else
      some (false)) := by kernel_rfl

/- multikernel/multikernelref10.PutUvarint -/
def E86 : Env := envG 21 [4] [(1, [(0, .c (.own 5)), (1, .c (.int .i64))])] []
def A86 : List AP := [.c (.own 5), .c (.int .i64)]
def R86 : List RSh := [.c (.own 5)]
def T86L0 : STree := (.branch (.cmp .geq (.var 1) (.lit 128))
 (.req (.ne0 (.lit 128))
  (.req (.room (.var 0) (.snoc .nil (.cons (.int .u8 (.conv .u8 (.bin .add .i64 (.bin .rem .i64 (.var 1) (.lit 128)) (.lit 128)))) .nil)) 1)
  (.req (.ne0 (.lit 128))
  (.again 0 [(.l (.app (.var 0) (.snoc .nil (.cons (.int .u8 (.conv .u8 (.bin .add .i64 (.bin .rem .i64 (.var 1) (.lit 128)) (.lit 128)))) .nil)))), (.i (.bin .quo .i64 (.var 1) (.lit 128)))]))))
 (.req (.room (.var 0) (.snoc .nil (.cons (.int .u8 (.conv .u8 (.var 1))) .nil)) 1)
  (.ret (.own 5 (.app (.var 0) (.snoc .nil (.cons (.int .u8 (.conv .u8 (.var 1))) .nil)))) [.dead, .dead])))
def T86 : STree := (.loop 0 [(.l (.var 0)), (.i (.var 1))] 0 T86L0)
theorem eq86 : evFn Try.prog E86 Try.f86 (argsAt A86 0) 2 = T86 := by kernel_rfl
noncomputable def P86 : List (FuncId × Fun) := []
noncomputable def S86 : Fun := ⟨A86, R86, fun vs => T86.run Try.prog P86 A86 R86 (fun _ _ => none) (envL vs)⟩
theorem ok86 : S86.Ok Try.prog 86 := fun_ok (Φ := P86) (S := S86) mixed plain_ok Try.func86 (by kernel_rfl) (by kernel_rfl) (by kernel_rfl) eq86 trivial (fun _ => by kernel_rfl)
noncomputable def g86 (x0 : List (List AV)) (x1 : Int) : Option (List (List AV)) := S86.g [.l x0, .i x1]
noncomputable def g86L0 (k : Nat) (x0 : List (List AV)) (x1 : Int) : Option (List (List AV)) := iterL (fun rec vs => STree.run Try.prog P86 A86 R86 T86L0 (updR (fun _ _ => none) 0 rec) (bind zeroE 0 vs)) k [.l x0, .i x1]
theorem g86L0_eq (k : Nat) (x0 : List (List AV)) (x1 : Int) : g86L0 (k + 1) x0 x1 =
    (if (cop .geq x1 128) = true then
      reqK ((128 : Int) ≠ 0) <|
      reqK (roomP x0 (([] : List (List AV)) ++ [[AV.val (.int .u8 (IntKind.wrap .u8 (iop .add .i64 (iop .rem .i64 x1 128) 128)))]]) 1) <|
      reqK ((128 : Int) ≠ 0) <|
      g86L0 k (x0 ++ (([] : List (List AV)) ++ [[AV.val (.int .u8 (IntKind.wrap .u8 (iop .add .i64 (iop .rem .i64 x1 128) 128)))]])) (iop .quo .i64 x1 128)
    else
      reqK (roomP x0 (([] : List (List AV)) ++ [[AV.val (.int .u8 (IntKind.wrap .u8 x1))]]) 1) <|
      some ((x0 ++ (([] : List (List AV)) ++ [[AV.val (.int .u8 (IntKind.wrap .u8 x1))]])))) := by kernel_rfl
theorem g86_eq (x0 : List (List AV)) (x1 : Int) : g86 x0 x1 =
    (g86L0 FUEL x0 x1) := by kernel_rfl

/- multikernel/multikernelref10.PutId -/
def E87 : Env := envG 15 [4] [] []
def A87 : List AP := [.c (.own 5), .agg [.int .i64, .int .i64, .int .i64]]
def R87 : List RSh := [.c (.own 5)]
def T87 : STree := (.call 86 [(.own 5 (.var 0)), (.c (.int .i64 (.var 1)))] (.own 5 (.var 4)) [.dead, .dead] 4 [.own 5]
 (.call 86 [(.own 5 (.var 4)), (.c (.int .i64 (.var 2)))] (.own 5 (.var 5)) [.dead, .dead] 5 [.own 5]
 (.call 86 [(.own 5 (.var 5)), (.c (.int .i64 (.var 3)))] (.own 5 (.var 6)) [.dead, .dead] 6 [.own 5]
 (.ret (.own 5 (.var 6)) [.dead, .dead]))))
theorem eq87 : evFn Try.prog E87 Try.f87 (argsAt A87 0) 4 = T87 := by kernel_rfl
noncomputable def P87 : List (FuncId × Fun) := [(86, S86)]
noncomputable def S87 : Fun := ⟨A87, R87, fun vs => T87.run Try.prog P87 A87 R87 (fun _ _ => none) (envL vs)⟩
theorem ok87 : S87.Ok Try.prog 87 := fun_ok (Φ := P87) (S := S87) mixed plain_ok Try.func87 (by kernel_rfl) (by kernel_rfl) (by kernel_rfl) eq87 (And.intro ok86 trivial) (fun _ => by kernel_rfl)
noncomputable def g87 (x0 : List (List AV)) (x1 : Int) (x2 : Int) (x3 : Int) : Option (List (List AV)) := S87.g [.l x0, .i x1, .i x2, .i x3]
theorem g87_eq (x0 : List (List AV)) (x1 : Int) (x2 : Int) (x3 : Int) : g87 x0 x1 x2 x3 =
    ((g86 x0 x1).bind fun (r4 : List (List AV)) =>
    (g86 r4 x2).bind fun (r5 : List (List AV)) =>
    (g86 r5 x3).bind fun (r6 : List (List AV)) =>
    some (r6)) := by kernel_rfl

/- multikernel/multikernelref10.EncodeNode -/
def E64 : Env := envG 41 [2, 3] [(5, [(1, .box [.int .i64, .int .i64, .int .i64, .slice 3, .int .i64, .int .i64, .int .i64, .int .i64, .int .i64, .int .i64, .bool]), (4, .c (.own 5)), (5, .c (.int .i64))])] []
def A64 : List AP := [.agg [.int .i64, .int .i64, .int .i64, .slice 3, .int .i64, .int .i64, .int .i64, .int .i64, .int .i64, .int .i64, .bool]]
def R64 : List RSh := [.c (.own 5), .c (.int .i64)]
def T64L0 : STree := (.branch (.cmp .lss (.var 12) (.len (.var 3)))
 (.elem (.var 3) (.var 12) [.int .i64, .int .i64, .int .i64] 13
  (.call 87 [(.own 5 (.var 11)), (.agg [(.int .i64 (.var 13)), (.int .i64 (.var 14)), (.int .i64 (.var 15))])] (.own 5 (.var 16)) [.dead, .dead] 16 [.own 5]
  (.again 0 [(.i (.var 0)), (.i (.var 1)), (.i (.var 2)), (.l (.var 3)), (.i (.var 4)), (.i (.var 5)), (.i (.var 6)), (.i (.var 7)), (.i (.var 8)), (.i (.var 9)), (.b (.var 10)), (.l (.var 16)), (.i (.bin .add .i64 (.var 12) (.lit 1)))])))
 (.call 39 [(.agg [(.int .i64 (.var 4)), (.int .i64 (.var 5)), (.int .i64 (.var 6)), (.int .i64 (.var 7)), (.int .i64 (.var 8)), (.int .i64 (.var 9)), (.bool (.var 10))])] (.tuple [(.own 5 (.var 13)), (.c (.int .i64 (.var 14)))]) [.dead] 13 [.own 5, .int .i64]
  (.req (.room (.var 11) (.var 13) 1)
  (.ret (.tuple [(.own 5 (.app (.var 11) (.var 13))), (.c (.int .i64 (.lit 0)))]) [.dead]))))
def T64 : STree := (.call 60 [(.agg [(.int .i64 (.var 0)), (.int .i64 (.var 1)), (.int .i64 (.var 2)), (.slice false 3 (.var 3)), (.int .i64 (.var 4)), (.int .i64 (.var 5)), (.int .i64 (.var 6)), (.int .i64 (.var 7)), (.int .i64 (.var 8)), (.int .i64 (.var 9)), (.bool (.var 10))])] (.c (.bool (.var 11))) [.dead] 11 [.bool]
 (.branch (.not (.var 11))
 (.ret (.tuple [(.own 5 .nil), (.c (.int .i64 (.lit 1)))]) [.dead])
 (.call 87 [(.c (.slice true 0 .nil)), (.agg [(.int .i64 (.var 0)), (.int .i64 (.var 1)), (.int .i64 (.var 2))])] (.own 5 (.var 12)) [.dead, .dead] 12 [.own 5]
  (.call 86 [(.own 5 (.var 12)), (.c (.int .i64 (.len (.var 3))))] (.own 5 (.var 13)) [.dead, .dead] 13 [.own 5]
  (.loop 0 [(.i (.var 0)), (.i (.var 1)), (.i (.var 2)), (.l (.var 3)), (.i (.var 4)), (.i (.var 5)), (.i (.var 6)), (.i (.var 7)), (.i (.var 8)), (.i (.var 9)), (.b (.var 10)), (.l (.var 13)), (.i (.lit 0))] 0 T64L0)))))
theorem eq64 : evFn Try.prog E64 Try.f64 (argsAt A64 0) 11 = T64 := by kernel_rfl
noncomputable def P64 : List (FuncId × Fun) := [(60, S60), (87, S87), (86, S86), (39, S39)]
noncomputable def S64 : Fun := ⟨A64, R64, fun vs => T64.run Try.prog P64 A64 R64 (fun _ _ => none) (envL vs)⟩
theorem ok64 : S64.Ok Try.prog 64 := fun_ok (Φ := P64) (S := S64) mixed plain_ok Try.func64 (by kernel_rfl) (by kernel_rfl) (by kernel_rfl) eq64 (And.intro ok60 (And.intro ok87 (And.intro ok86 (And.intro ok39 trivial)))) (fun _ => by kernel_rfl)
noncomputable def g64 (x0 : Int) (x1 : Int) (x2 : Int) (x3 : List (List AV)) (x4 : Int) (x5 : Int) (x6 : Int) (x7 : Int) (x8 : Int) (x9 : Int) (x10 : Bool) : Option (List (List AV) × Int) := S64.g [.i x0, .i x1, .i x2, .l x3, .i x4, .i x5, .i x6, .i x7, .i x8, .i x9, .b x10]
noncomputable def g64L0 (k : Nat) (x0 : Int) (x1 : Int) (x2 : Int) (x3 : List (List AV)) (x4 : Int) (x5 : Int) (x6 : Int) (x7 : Int) (x8 : Int) (x9 : Int) (x10 : Bool) (x11 : List (List AV)) (x12 : Int) : Option (List (List AV) × Int) := iterL (fun rec vs => STree.run Try.prog P64 A64 R64 T64L0 (updR (fun _ _ => none) 0 rec) (bind zeroE 0 vs)) k [.i x0, .i x1, .i x2, .l x3, .i x4, .i x5, .i x6, .i x7, .i x8, .i x9, .b x10, .l x11, .i x12]
theorem g64L0_eq (k : Nat) (x0 : Int) (x1 : Int) (x2 : Int) (x3 : List (List AV)) (x4 : Int) (x5 : Int) (x6 : Int) (x7 : Int) (x8 : Int) (x9 : Int) (x10 : Bool) (x11 : List (List AV)) (x12 : Int) : g64L0 (k + 1) x0 x1 x2 x3 x4 x5 x6 x7 x8 x9 x10 x11 x12 =
    (if (cop .lss x12 (List.length x3 : Int)) = true then
      elemK x3 x12 [.int .i64, .int .i64, .int .i64] fun (r13 : Int × Int × Int) =>
      (g87 x11 r13.1 r13.2.1 r13.2.2).bind fun (r16 : List (List AV)) =>
      g64L0 k x0 x1 x2 x3 x4 x5 x6 x7 x8 x9 x10 r16 (iop .add .i64 x12 1)
    else
      (g39 x4 x5 x6 x7 x8 x9 x10).bind fun (r13 : List (List AV) × Int) =>
      reqK (roomP x11 r13.1 1) <|
      some ((x11 ++ r13.1), 0)) := by kernel_rfl
theorem g64_eq (x0 : Int) (x1 : Int) (x2 : Int) (x3 : List (List AV)) (x4 : Int) (x5 : Int) (x6 : Int) (x7 : Int) (x8 : Int) (x9 : Int) (x10 : Bool) : g64 x0 x1 x2 x3 x4 x5 x6 x7 x8 x9 x10 =
    ((g60 x0 x1 x2 x3 x4 x5 x6 x7 x8 x9 x10).bind fun (r11 : Bool) =>
    if (!r11) = true then
      some (([] : List (List AV)), 1)
    else
      (g87 ([] : List (List AV)) x0 x1 x2).bind fun (r12 : List (List AV)) =>
      (g86 r12 (List.length x3 : Int)).bind fun (r13 : List (List AV)) =>
      g64L0 FUEL x0 x1 x2 x3 x4 x5 x6 x7 x8 x9 x10 r13 0) := by kernel_rfl

/- multikernel/binenc.Uvarint -/
def E100 : Env := envG 59 [4, 5, 6] [(4, [(0, .c (.slice 1)), (1, .c (.int .i64)), (4, .c (.int .u64)), (7, .c (.int .i64))])] []
def A100 : List AP := [.c (.slice 1), .c (.int .i64)]
def R100 : List RSh := [.c (.int .u64), .c (.int .i64), .c (.int .i64)]
def T100L0 : STree := (.branch (.cmp .eql (.bin .add .i64 (.var 1) (.var 3)) (.len (.var 0)))
 (.ret (.tuple [(.c (.int .u64 (.lit 0))), (.c (.int .i64 (.lit 0))), (.c (.int .i64 (.lit 52)))]) [.dead, .dead])
 (.elem (.var 0) (.bin .add .i64 (.var 1) (.var 3)) [.int .u8] 4
  (.branch (.cmp .eql (.var 3) (.lit 9))
  (.branch (.cmp .gtr (.var 4) (.lit 1))
   (.ret (.tuple [(.c (.int .u64 (.lit 0))), (.c (.int .i64 (.lit 0))), (.c (.int .i64 (.lit 6)))]) [.dead, .dead])
   (.branch (.cmp .gtr (.var 3) (.lit 0))
    (.branch (.cmp .eql (.var 4) (.lit 0))
     (.ret (.tuple [(.c (.int .u64 (.lit 0))), (.c (.int .i64 (.lit 0))), (.c (.int .i64 (.lit 54)))]) [.dead, .dead])
     (.req (.le (.lit 0) (.bin .mul .i64 (.lit 7) (.var 3)))
      (.branch (.cmp .lss (.var 4) (.lit 128))
      (.ret (.tuple [(.c (.int .u64 (.bin .or .u64 (.var 2) (.bin .shl .u64 (.conv .u64 (.bin .and .u8 (.var 4) (.lit 127))) (.bin .mul .i64 (.lit 7) (.var 3)))))), (.c (.int .i64 (.bin .add .i64 (.var 1) (.bin .add .i64 (.var 3) (.lit 1))))), (.c (.int .i64 (.lit 0)))]) [.dead, .dead])
      (.again 0 [(.l (.var 0)), (.i (.var 1)), (.i (.bin .or .u64 (.var 2) (.bin .shl .u64 (.conv .u64 (.bin .and .u8 (.var 4) (.lit 127))) (.bin .mul .i64 (.lit 7) (.var 3))))), (.i (.bin .add .i64 (.var 3) (.lit 1)))]))))
    (.req (.le (.lit 0) (.bin .mul .i64 (.lit 7) (.var 3)))
     (.branch (.cmp .lss (.var 4) (.lit 128))
     (.ret (.tuple [(.c (.int .u64 (.bin .or .u64 (.var 2) (.bin .shl .u64 (.conv .u64 (.bin .and .u8 (.var 4) (.lit 127))) (.bin .mul .i64 (.lit 7) (.var 3)))))), (.c (.int .i64 (.bin .add .i64 (.var 1) (.bin .add .i64 (.var 3) (.lit 1))))), (.c (.int .i64 (.lit 0)))]) [.dead, .dead])
     (.again 0 [(.l (.var 0)), (.i (.var 1)), (.i (.bin .or .u64 (.var 2) (.bin .shl .u64 (.conv .u64 (.bin .and .u8 (.var 4) (.lit 127))) (.bin .mul .i64 (.lit 7) (.var 3))))), (.i (.bin .add .i64 (.var 3) (.lit 1)))])))))
  (.branch (.cmp .gtr (.var 3) (.lit 0))
   (.branch (.cmp .eql (.var 4) (.lit 0))
    (.ret (.tuple [(.c (.int .u64 (.lit 0))), (.c (.int .i64 (.lit 0))), (.c (.int .i64 (.lit 54)))]) [.dead, .dead])
    (.req (.le (.lit 0) (.bin .mul .i64 (.lit 7) (.var 3)))
     (.branch (.cmp .lss (.var 4) (.lit 128))
     (.ret (.tuple [(.c (.int .u64 (.bin .or .u64 (.var 2) (.bin .shl .u64 (.conv .u64 (.bin .and .u8 (.var 4) (.lit 127))) (.bin .mul .i64 (.lit 7) (.var 3)))))), (.c (.int .i64 (.bin .add .i64 (.var 1) (.bin .add .i64 (.var 3) (.lit 1))))), (.c (.int .i64 (.lit 0)))]) [.dead, .dead])
     (.again 0 [(.l (.var 0)), (.i (.var 1)), (.i (.bin .or .u64 (.var 2) (.bin .shl .u64 (.conv .u64 (.bin .and .u8 (.var 4) (.lit 127))) (.bin .mul .i64 (.lit 7) (.var 3))))), (.i (.bin .add .i64 (.var 3) (.lit 1)))]))))
   (.req (.le (.lit 0) (.bin .mul .i64 (.lit 7) (.var 3)))
    (.branch (.cmp .lss (.var 4) (.lit 128))
    (.ret (.tuple [(.c (.int .u64 (.bin .or .u64 (.var 2) (.bin .shl .u64 (.conv .u64 (.bin .and .u8 (.var 4) (.lit 127))) (.bin .mul .i64 (.lit 7) (.var 3)))))), (.c (.int .i64 (.bin .add .i64 (.var 1) (.bin .add .i64 (.var 3) (.lit 1))))), (.c (.int .i64 (.lit 0)))]) [.dead, .dead])
    (.again 0 [(.l (.var 0)), (.i (.var 1)), (.i (.bin .or .u64 (.var 2) (.bin .shl .u64 (.conv .u64 (.bin .and .u8 (.var 4) (.lit 127))) (.bin .mul .i64 (.lit 7) (.var 3))))), (.i (.bin .add .i64 (.var 3) (.lit 1)))])))))))
def T100 : STree := (.branch (.cmp .lss (.var 1) (.lit 0))
 (.ret (.tuple [(.c (.int .u64 (.lit 0))), (.c (.int .i64 (.lit 0))), (.c (.int .i64 (.lit 6)))]) [.dead, .dead])
 (.branch (.cmp .gtr (.var 1) (.len (.var 0)))
  (.ret (.tuple [(.c (.int .u64 (.lit 0))), (.c (.int .i64 (.lit 0))), (.c (.int .i64 (.lit 6)))]) [.dead, .dead])
  (.loop 0 [(.l (.var 0)), (.i (.var 1)), (.i (.lit 0)), (.i (.lit 0))] 0 T100L0)))
theorem eq100 : evFn Try.prog E100 Try.f100 (argsAt A100 0) 2 = T100 := by kernel_rfl
noncomputable def P100 : List (FuncId × Fun) := []
noncomputable def S100 : Fun := ⟨A100, R100, fun vs => T100.run Try.prog P100 A100 R100 (fun _ _ => none) (envL vs)⟩
theorem ok100 : S100.Ok Try.prog 100 := fun_ok (Φ := P100) (S := S100) mixed plain_ok Try.func100 (by kernel_rfl) (by kernel_rfl) (by kernel_rfl) eq100 trivial (fun _ => by kernel_rfl)
noncomputable def g100 (x0 : List (List AV)) (x1 : Int) : Option (Int × Int × Int) := S100.g [.l x0, .i x1]
noncomputable def g100L0 (k : Nat) (x0 : List (List AV)) (x1 : Int) (x2 : Int) (x3 : Int) : Option (Int × Int × Int) := iterL (fun rec vs => STree.run Try.prog P100 A100 R100 T100L0 (updR (fun _ _ => none) 0 rec) (bind zeroE 0 vs)) k [.l x0, .i x1, .i x2, .i x3]
theorem g100L0_eq (k : Nat) (x0 : List (List AV)) (x1 : Int) (x2 : Int) (x3 : Int) : g100L0 (k + 1) x0 x1 x2 x3 =
    (if (cop .eql (iop .add .i64 x1 x3) (List.length x0 : Int)) = true then
      some (0, 0, 52)
    else
      elemK x0 (iop .add .i64 x1 x3) [.int .u8] fun (r4 : Int) =>
      if (cop .eql x3 9) = true then
        if (cop .gtr r4 1) = true then
          some (0, 0, 6)
        else
          if (cop .gtr x3 0) = true then
            if (cop .eql r4 0) = true then
              some (0, 0, 54)
            else
              reqK ((0 : Int) ≤ (iop .mul .i64 7 x3)) <|
              if (cop .lss r4 128) = true then
                some ((iop .or .u64 x2 (iop .shl .u64 (IntKind.wrap .u64 (iop .and .u8 r4 127)) (iop .mul .i64 7 x3))), (iop .add .i64 x1 (iop .add .i64 x3 1)), 0)
              else
                g100L0 k x0 x1 (iop .or .u64 x2 (iop .shl .u64 (IntKind.wrap .u64 (iop .and .u8 r4 127)) (iop .mul .i64 7 x3))) (iop .add .i64 x3 1)
          else
            reqK ((0 : Int) ≤ (iop .mul .i64 7 x3)) <|
            if (cop .lss r4 128) = true then
              some ((iop .or .u64 x2 (iop .shl .u64 (IntKind.wrap .u64 (iop .and .u8 r4 127)) (iop .mul .i64 7 x3))), (iop .add .i64 x1 (iop .add .i64 x3 1)), 0)
            else
              g100L0 k x0 x1 (iop .or .u64 x2 (iop .shl .u64 (IntKind.wrap .u64 (iop .and .u8 r4 127)) (iop .mul .i64 7 x3))) (iop .add .i64 x3 1)
      else
        if (cop .gtr x3 0) = true then
          if (cop .eql r4 0) = true then
            some (0, 0, 54)
          else
            reqK ((0 : Int) ≤ (iop .mul .i64 7 x3)) <|
            if (cop .lss r4 128) = true then
              some ((iop .or .u64 x2 (iop .shl .u64 (IntKind.wrap .u64 (iop .and .u8 r4 127)) (iop .mul .i64 7 x3))), (iop .add .i64 x1 (iop .add .i64 x3 1)), 0)
            else
              g100L0 k x0 x1 (iop .or .u64 x2 (iop .shl .u64 (IntKind.wrap .u64 (iop .and .u8 r4 127)) (iop .mul .i64 7 x3))) (iop .add .i64 x3 1)
        else
          reqK ((0 : Int) ≤ (iop .mul .i64 7 x3)) <|
          if (cop .lss r4 128) = true then
            some ((iop .or .u64 x2 (iop .shl .u64 (IntKind.wrap .u64 (iop .and .u8 r4 127)) (iop .mul .i64 7 x3))), (iop .add .i64 x1 (iop .add .i64 x3 1)), 0)
          else
            g100L0 k x0 x1 (iop .or .u64 x2 (iop .shl .u64 (IntKind.wrap .u64 (iop .and .u8 r4 127)) (iop .mul .i64 7 x3))) (iop .add .i64 x3 1)) := by kernel_rfl
theorem g100_eq (x0 : List (List AV)) (x1 : Int) : g100 x0 x1 =
    (if (cop .lss x1 0) = true then
      some (0, 0, 6)
    else
      if (cop .gtr x1 (List.length x0 : Int)) = true then
        some (0, 0, 6)
      else
        g100L0 FUEL x0 x1 0 0) := by kernel_rfl

/- (*multikernel/node.reader).integer -/
def E89 : Env := envG 42 [4] [] [0]
def A89 : List AP := [.box [.slice 1, .int .i64, .bool], .c (.int .i64)]
def R89 : List RSh := [.c (.int .i64)]
def T89 : STree := (.branch (.var 2)
 (.ret (.c (.int .i64 (.lit 0))) [(.box [(.c (.slice false 1 (.var 0))), (.c (.int .i64 (.var 1))), (.c (.bool (.var 2)))]), .dead])
 (.call 100 [(.c (.slice false 1 (.var 0))), (.c (.int .i64 (.var 1)))] (.tuple [(.c (.int .u64 (.var 4))), (.c (.int .i64 (.var 5))), (.c (.int .i64 (.var 6)))]) [.dead, .dead] 4 [.int .u64, .int .i64, .int .i64]
  (.branch (.cmp .neq (.var 6) (.lit 0))
  (.ret (.c (.int .i64 (.lit 0))) [(.box [(.c (.slice false 1 (.var 0))), (.c (.int .i64 (.var 1))), (.c (.bool (.lit true)))]), .dead])
  (.branch (.cmp .gtr (.var 4) (.conv .u64 (.var 3)))
   (.ret (.c (.int .i64 (.lit 0))) [(.box [(.c (.slice false 1 (.var 0))), (.c (.int .i64 (.var 1))), (.c (.bool (.lit true)))]), .dead])
   (.ret (.c (.int .i64 (.conv .i64 (.var 4)))) [(.box [(.c (.slice false 1 (.var 0))), (.c (.int .i64 (.var 5))), (.c (.bool (.var 2)))]), .dead])))))
theorem eq89 : evFn Try.prog E89 Try.f89 (argsAt A89 0) 4 = T89 := by kernel_rfl
noncomputable def P89 : List (FuncId × Fun) := [(100, S100)]
noncomputable def S89 : Fun := ⟨A89, R89, fun vs => T89.run Try.prog P89 A89 R89 (fun _ _ => none) (envL vs)⟩
theorem ok89 : S89.Ok Try.prog 89 := fun_ok (Φ := P89) (S := S89) mixed plain_ok Try.func89 (by kernel_rfl) (by kernel_rfl) (by kernel_rfl) eq89 (And.intro ok100 trivial) (fun _ => by kernel_rfl)
noncomputable def g89 (x0 : List (List AV)) (x1 : Int) (x2 : Bool) (x3 : Int) : Option (Int × List (List AV) × Int × Bool) := S89.g [.l x0, .i x1, .b x2, .i x3]
theorem g89_eq (x0 : List (List AV)) (x1 : Int) (x2 : Bool) (x3 : Int) : g89 x0 x1 x2 x3 =
    (if x2 = true then
      some (0, x0, x1, x2)
    else
      (g100 x0 x1).bind fun (r4 : Int × Int × Int) =>
      if (cop .neq r4.2.2 0) = true then
        some (0, x0, x1, true)
      else
        if (cop .gtr r4.1 (IntKind.wrap .u64 x3)) = true then
          some (0, x0, x1, true)
        else
          some ((IntKind.wrap .i64 r4.1), x0, r4.2.1, x2)) := by kernel_rfl

/- (*multikernel/node.reader).id -/
def E88 : Env := envG 10 [2] [] [0]
def A88 : List AP := [.box [.slice 1, .int .i64, .bool]]
def R88 : List RSh := [.agg [.int .i64, .int .i64, .int .i64]]
def T88 : STree := (.call 89 [(.box [(.c (.slice false 1 (.var 0))), (.c (.int .i64 (.var 1))), (.c (.bool (.var 2)))]), (.c (.int .i64 (.lit 32)))] (.c (.int .i64 (.var 3))) [(.box [(.c (.slice false 1 (.var 4))), (.c (.int .i64 (.var 5))), (.c (.bool (.var 6)))]), .dead] 3 [.int .i64, .slice 1, .int .i64, .bool]
 (.call 89 [(.box [(.c (.slice false 1 (.var 4))), (.c (.int .i64 (.var 5))), (.c (.bool (.var 6)))]), (.c (.int .i64 (.lit 1073741824)))] (.c (.int .i64 (.var 7))) [(.box [(.c (.slice false 1 (.var 8))), (.c (.int .i64 (.var 9))), (.c (.bool (.var 10)))]), .dead] 7 [.int .i64, .slice 1, .int .i64, .bool]
 (.call 89 [(.box [(.c (.slice false 1 (.var 8))), (.c (.int .i64 (.var 9))), (.c (.bool (.var 10)))]), (.c (.int .i64 (.lit 8)))] (.c (.int .i64 (.var 11))) [(.box [(.c (.slice false 1 (.var 12))), (.c (.int .i64 (.var 13))), (.c (.bool (.var 14)))]), .dead] 11 [.int .i64, .slice 1, .int .i64, .bool]
 (.ret (.agg [(.int .i64 (.var 3)), (.int .i64 (.var 7)), (.int .i64 (.var 11))]) [(.box [(.c (.slice false 1 (.var 12))), (.c (.int .i64 (.var 13))), (.c (.bool (.var 14)))])]))))
theorem eq88 : evFn Try.prog E88 Try.f88 (argsAt A88 0) 3 = T88 := by kernel_rfl
noncomputable def P88 : List (FuncId × Fun) := [(89, S89)]
noncomputable def S88 : Fun := ⟨A88, R88, fun vs => T88.run Try.prog P88 A88 R88 (fun _ _ => none) (envL vs)⟩
theorem ok88 : S88.Ok Try.prog 88 := fun_ok (Φ := P88) (S := S88) mixed plain_ok Try.func88 (by kernel_rfl) (by kernel_rfl) (by kernel_rfl) eq88 (And.intro ok89 trivial) (fun _ => by kernel_rfl)
noncomputable def g88 (x0 : List (List AV)) (x1 : Int) (x2 : Bool) : Option (Int × Int × Int × List (List AV) × Int × Bool) := S88.g [.l x0, .i x1, .b x2]
theorem g88_eq (x0 : List (List AV)) (x1 : Int) (x2 : Bool) : g88 x0 x1 x2 =
    ((g89 x0 x1 x2 32).bind fun (r3 : Int × List (List AV) × Int × Bool) =>
    (g89 r3.2.1 r3.2.2.1 r3.2.2.2 1073741824).bind fun (r7 : Int × List (List AV) × Int × Bool) =>
    (g89 r7.2.1 r7.2.2.1 r7.2.2.2 8).bind fun (r11 : Int × List (List AV) × Int × Bool) =>
    some (r3.1, r7.1, r11.1, r11.2.1, r11.2.2.1, r11.2.2.2)) := by kernel_rfl

/- multikernel/node.Decode -/
def E65 : Env := envG 52 [2, 3] [(4, [(0, .c (.slice 1)), (2, .box [.int .i64, .int .i64, .int .i64, .slice 3, .int .i64, .int .i64, .int .i64, .int .i64, .int .i64, .int .i64, .bool]), (4, .ptr 10 0), (5, .box [.int .i64, .int .i64, .int .i64, .own 55, .int .i64, .int .i64, .int .i64, .int .i64, .int .i64, .int .i64, .bool]), (15, .c (.int .i64)), (16, .c (.int .i64)), (10, .box [.slice 1, .int .i64, .bool])])] []
def A65 : List AP := [.c (.slice 1)]
def R65 : List RSh := [.agg [.int .i64, .int .i64, .int .i64, .slice 3, .int .i64, .int .i64, .int .i64, .int .i64, .int .i64, .int .i64, .bool], .c (.int .i64)]
def T65L0 : STree := (.branch (.cmp .lss (.var 24) (.var 23))
 (.call 88 [(.box [(.c (.slice false 1 (.var 25))), (.c (.int .i64 (.var 26))), (.c (.bool (.var 27)))])] (.agg [(.int .i64 (.var 28)), (.int .i64 (.var 29)), (.int .i64 (.var 30))]) [(.box [(.c (.slice false 1 (.var 31))), (.c (.int .i64 (.var 32))), (.c (.bool (.var 33)))])] 28 [.int .i64, .int .i64, .int .i64, .slice 1, .int .i64, .bool]
  (.req (.room (.var 15) (.snoc .nil (.cons (.int .i64 (.var 28)) (.cons (.int .i64 (.var 29)) (.cons (.int .i64 (.var 30)) .nil)))) 24)
  (.again 0 [(.l (.var 0)), (.i (.var 1)), (.i (.var 2)), (.i (.var 3)), (.l (.var 4)), (.i (.var 5)), (.i (.var 6)), (.i (.var 7)), (.i (.var 8)), (.i (.var 9)), (.i (.var 10)), (.b (.var 11)), (.i (.var 12)), (.i (.var 13)), (.i (.var 14)), (.l (.app (.var 15) (.snoc .nil (.cons (.int .i64 (.var 28)) (.cons (.int .i64 (.var 29)) (.cons (.int .i64 (.var 30)) .nil)))))), (.i (.var 16)), (.i (.var 17)), (.i (.var 18)), (.i (.var 19)), (.i (.var 20)), (.i (.var 21)), (.b (.var 22)), (.i (.var 23)), (.i (.bin .add .i64 (.var 24) (.lit 1))), (.l (.var 31)), (.i (.var 32)), (.b (.var 33))])))
 (.branch (.var 27)
  (.ret (.tuple [(.agg [(.int .i64 (.lit 0)), (.int .i64 (.lit 0)), (.int .i64 (.lit 0)), (.slice true 0 .nil), (.int .i64 (.lit 0)), (.int .i64 (.lit 0)), (.int .i64 (.lit 0)), (.int .i64 (.lit 0)), (.int .i64 (.lit 0)), (.int .i64 (.lit 0)), (.bool (.lit false))]), (.c (.int .i64 (.lit 14)))]) [.dead])
  (.req (.le (.lit 0) (.var 26))
   (.req (.le (.var 26) (.len (.var 0)))
   (.call 40 [(.c (.slice false 1 (.drop (.var 0) (.var 26))))] (.tuple [(.agg [(.int .i64 (.var 28)), (.int .i64 (.var 29)), (.int .i64 (.var 30)), (.int .i64 (.var 31)), (.int .i64 (.var 32)), (.int .i64 (.var 33)), (.bool (.var 34))]), (.c (.int .i64 (.var 35)))]) [.dead] 28 [.int .i64, .int .i64, .int .i64, .int .i64, .int .i64, .int .i64, .bool, .int .i64]
   (.branch (.cmp .neq (.var 35) (.lit 0))
   (.ret (.tuple [(.agg [(.int .i64 (.lit 0)), (.int .i64 (.lit 0)), (.int .i64 (.lit 0)), (.slice true 0 .nil), (.int .i64 (.lit 0)), (.int .i64 (.lit 0)), (.int .i64 (.lit 0)), (.int .i64 (.lit 0)), (.int .i64 (.lit 0)), (.int .i64 (.lit 0)), (.bool (.lit false))]), (.c (.int .i64 (.lit 14)))]) [.dead])
   (.call 49 [(.agg [(.int .i64 (.var 12)), (.int .i64 (.var 13)), (.int .i64 (.var 14)), (.slice false 3 (.var 15)), (.int .i64 (.var 28)), (.int .i64 (.var 29)), (.int .i64 (.var 30)), (.int .i64 (.var 31)), (.int .i64 (.var 32)), (.int .i64 (.var 33)), (.bool (.var 34))])] (.c (.bool (.var 36))) [.dead] 36 [.bool]
    (.branch (.not (.var 36))
    (.ret (.tuple [(.agg [(.int .i64 (.lit 0)), (.int .i64 (.lit 0)), (.int .i64 (.lit 0)), (.slice true 0 .nil), (.int .i64 (.lit 0)), (.int .i64 (.lit 0)), (.int .i64 (.lit 0)), (.int .i64 (.lit 0)), (.int .i64 (.lit 0)), (.int .i64 (.lit 0)), (.bool (.lit false))]), (.c (.int .i64 (.lit 14)))]) [.dead])
    (.ret (.tuple [(.agg [(.int .i64 (.var 12)), (.int .i64 (.var 13)), (.int .i64 (.var 14)), (.slice false 3 (.var 15)), (.int .i64 (.var 28)), (.int .i64 (.var 29)), (.int .i64 (.var 30)), (.int .i64 (.var 31)), (.int .i64 (.var 32)), (.int .i64 (.var 33)), (.bool (.var 34))]), (.c (.int .i64 (.lit 0)))]) [.dead])))))))))
def T65 : STree := (.call 88 [(.box [(.c (.slice false 1 (.var 0))), (.c (.int .i64 (.lit 0))), (.c (.bool (.lit false)))])] (.agg [(.int .i64 (.var 1)), (.int .i64 (.var 2)), (.int .i64 (.var 3))]) [(.box [(.c (.slice false 1 (.var 4))), (.c (.int .i64 (.var 5))), (.c (.bool (.var 6)))])] 1 [.int .i64, .int .i64, .int .i64, .slice 1, .int .i64, .bool]
 (.call 89 [(.box [(.c (.slice false 1 (.var 4))), (.c (.int .i64 (.var 5))), (.c (.bool (.var 6)))]), (.c (.int .i64 (.lit 8)))] (.c (.int .i64 (.var 7))) [(.box [(.c (.slice false 1 (.var 8))), (.c (.int .i64 (.var 9))), (.c (.bool (.var 10)))]), .dead] 7 [.int .i64, .slice 1, .int .i64, .bool]
 (.loop 0 [(.l (.var 0)), (.i (.lit 0)), (.i (.lit 0)), (.i (.lit 0)), (.l .nil), (.i (.lit 0)), (.i (.lit 0)), (.i (.lit 0)), (.i (.lit 0)), (.i (.lit 0)), (.i (.lit 0)), (.b (.lit false)), (.i (.var 1)), (.i (.var 2)), (.i (.var 3)), (.l .nil), (.i (.lit 0)), (.i (.lit 0)), (.i (.lit 0)), (.i (.lit 0)), (.i (.lit 0)), (.i (.lit 0)), (.b (.lit false)), (.i (.var 7)), (.i (.lit 0)), (.l (.var 8)), (.i (.var 9)), (.b (.var 10))] 0 T65L0)))
theorem eq65 : evFn Try.prog E65 Try.f65 (argsAt A65 0) 1 = T65 := by kernel_rfl
noncomputable def P65 : List (FuncId × Fun) := [(88, S88), (89, S89), (40, S40), (49, S49)]
noncomputable def S65 : Fun := ⟨A65, R65, fun vs => T65.run Try.prog P65 A65 R65 (fun _ _ => none) (envL vs)⟩
theorem ok65 : S65.Ok Try.prog 65 := fun_ok (Φ := P65) (S := S65) mixed plain_ok Try.func65 (by kernel_rfl) (by kernel_rfl) (by kernel_rfl) eq65 (And.intro ok88 (And.intro ok89 (And.intro ok40 (And.intro ok49 trivial)))) (fun _ => by kernel_rfl)
noncomputable def g65 (x0 : List (List AV)) : Option (Int × Int × Int × List (List AV) × Int × Int × Int × Int × Int × Int × Bool × Int) := S65.g [.l x0]
noncomputable def g65L0 (k : Nat) (x0 : List (List AV)) (x1 : Int) (x2 : Int) (x3 : Int) (x4 : List (List AV)) (x5 : Int) (x6 : Int) (x7 : Int) (x8 : Int) (x9 : Int) (x10 : Int) (x11 : Bool) (x12 : Int) (x13 : Int) (x14 : Int) (x15 : List (List AV)) (x16 : Int) (x17 : Int) (x18 : Int) (x19 : Int) (x20 : Int) (x21 : Int) (x22 : Bool) (x23 : Int) (x24 : Int) (x25 : List (List AV)) (x26 : Int) (x27 : Bool) : Option (Int × Int × Int × List (List AV) × Int × Int × Int × Int × Int × Int × Bool × Int) := iterL (fun rec vs => STree.run Try.prog P65 A65 R65 T65L0 (updR (fun _ _ => none) 0 rec) (bind zeroE 0 vs)) k [.l x0, .i x1, .i x2, .i x3, .l x4, .i x5, .i x6, .i x7, .i x8, .i x9, .i x10, .b x11, .i x12, .i x13, .i x14, .l x15, .i x16, .i x17, .i x18, .i x19, .i x20, .i x21, .b x22, .i x23, .i x24, .l x25, .i x26, .b x27]
theorem g65L0_eq (k : Nat) (x0 : List (List AV)) (x1 : Int) (x2 : Int) (x3 : Int) (x4 : List (List AV)) (x5 : Int) (x6 : Int) (x7 : Int) (x8 : Int) (x9 : Int) (x10 : Int) (x11 : Bool) (x12 : Int) (x13 : Int) (x14 : Int) (x15 : List (List AV)) (x16 : Int) (x17 : Int) (x18 : Int) (x19 : Int) (x20 : Int) (x21 : Int) (x22 : Bool) (x23 : Int) (x24 : Int) (x25 : List (List AV)) (x26 : Int) (x27 : Bool) : g65L0 (k + 1) x0 x1 x2 x3 x4 x5 x6 x7 x8 x9 x10 x11 x12 x13 x14 x15 x16 x17 x18 x19 x20 x21 x22 x23 x24 x25 x26 x27 =
    (if (cop .lss x24 x23) = true then
      (g88 x25 x26 x27).bind fun (r28 : Int × Int × Int × List (List AV) × Int × Bool) =>
      reqK (roomP x15 (([] : List (List AV)) ++ [[AV.val (.int .i64 r28.1), AV.val (.int .i64 r28.2.1), AV.val (.int .i64 r28.2.2.1)]]) 24) <|
      g65L0 k x0 x1 x2 x3 x4 x5 x6 x7 x8 x9 x10 x11 x12 x13 x14 (x15 ++ (([] : List (List AV)) ++ [[AV.val (.int .i64 r28.1), AV.val (.int .i64 r28.2.1), AV.val (.int .i64 r28.2.2.1)]])) x16 x17 x18 x19 x20 x21 x22 x23 (iop .add .i64 x24 1) r28.2.2.2.1 r28.2.2.2.2.1 r28.2.2.2.2.2
    else
      if x27 = true then
        some (0, 0, 0, ([] : List (List AV)), 0, 0, 0, 0, 0, 0, false, 14)
      else
        reqK ((0 : Int) ≤ x26) <|
        reqK ((x26 : Int) ≤ (List.length x0 : Int)) <|
        (g40 (List.drop (Int.toNat x26) x0)).bind fun (r28 : Int × Int × Int × Int × Int × Int × Bool × Int) =>
        if (cop .neq r28.2.2.2.2.2.2.2 0) = true then
          some (0, 0, 0, ([] : List (List AV)), 0, 0, 0, 0, 0, 0, false, 14)
        else
          (g49 x12 x13 x14 x15 r28.1 r28.2.1 r28.2.2.1 r28.2.2.2.1 r28.2.2.2.2.1 r28.2.2.2.2.2.1 r28.2.2.2.2.2.2.1).bind fun (r36 : Bool) =>
          if (!r36) = true then
            some (0, 0, 0, ([] : List (List AV)), 0, 0, 0, 0, 0, 0, false, 14)
          else
            some (x12, x13, x14, x15, r28.1, r28.2.1, r28.2.2.1, r28.2.2.2.1, r28.2.2.2.2.1, r28.2.2.2.2.2.1, r28.2.2.2.2.2.2.1, 0)) := by kernel_rfl
theorem g65_eq (x0 : List (List AV)) : g65 x0 =
    ((g88 x0 0 false).bind fun (r1 : Int × Int × Int × List (List AV) × Int × Bool) =>
    (g89 r1.2.2.2.1 r1.2.2.2.2.1 r1.2.2.2.2.2 8).bind fun (r7 : Int × List (List AV) × Int × Bool) =>
    g65L0 FUEL x0 0 0 0 ([] : List (List AV)) 0 0 0 0 0 0 false r1.1 r1.2.1 r1.2.2.1 ([] : List (List AV)) 0 0 0 0 0 0 false r7.1 0 r7.2.1 r7.2.2.1 r7.2.2.2) := by kernel_rfl

/- (*multikernel/multikernelref10.Reader).Number -/
def E91 : Env := envG 54 [2] [(3, [(0, .box [.slice 1, .bool]), (3, .c (.int .i64)), (4, .c (.int .i64))])] [0]
def A91 : List AP := [.box [.slice 1, .bool]]
def R91 : List RSh := [.c (.int .i64)]
def T91L0 : STree := (.branch (.cmp .lss (.var 3) (.lit 5))
 (.branch (.var 1)
  (.ret (.c (.int .i64 (.lit 0))) [(.box [(.c (.slice false 1 (.var 0))), (.c (.bool (.lit true)))])])
  (.branch (.cmp .eql (.len (.var 0)) (.lit 0))
   (.ret (.c (.int .i64 (.lit 0))) [(.box [(.c (.slice false 1 (.var 0))), (.c (.bool (.lit true)))])])
   (.elem (.var 0) (.lit 0) [.int .u8] 4
    (.req (.le (.lit 0) (.lit 1))
    (.req (.le (.lit 1) (.len (.var 0)))
    (.req (.ne0 (.lit 128))
    (.req (.le (.lit 0) (.conv .u64 (.bin .mul .i64 (.lit 7) (.var 3))))
    (.branch (.cmp .lss (.conv .i64 (.var 4)) (.lit 128))
    (.ret (.c (.int .i64 (.bin .add .i64 (.var 2) (.bin .shl .i64 (.bin .rem .i64 (.conv .i64 (.var 4)) (.lit 128)) (.conv .u64 (.bin .mul .i64 (.lit 7) (.var 3))))))) [(.box [(.c (.slice false 1 (.drop (.var 0) (.lit 1)))), (.c (.bool (.var 1)))])])
    (.again 0 [(.l (.drop (.var 0) (.lit 1))), (.b (.var 1)), (.i (.bin .add .i64 (.var 2) (.bin .shl .i64 (.bin .rem .i64 (.conv .i64 (.var 4)) (.lit 128)) (.conv .u64 (.bin .mul .i64 (.lit 7) (.var 3)))))), (.i (.bin .add .i64 (.var 3) (.lit 1)))])))))))))
 (.ret (.c (.int .i64 (.lit 0))) [(.box [(.c (.slice false 1 (.var 0))), (.c (.bool (.lit true)))])]))
def T91 : STree := (.loop 0 [(.l (.var 0)), (.b (.var 1)), (.i (.lit 0)), (.i (.lit 0))] 0 T91L0)
theorem eq91 : evFn Try.prog E91 Try.f91 (argsAt A91 0) 2 = T91 := by kernel_rfl
noncomputable def P91 : List (FuncId × Fun) := []
noncomputable def S91 : Fun := ⟨A91, R91, fun vs => T91.run Try.prog P91 A91 R91 (fun _ _ => none) (envL vs)⟩
theorem ok91 : S91.Ok Try.prog 91 := fun_ok (Φ := P91) (S := S91) mixed plain_ok Try.func91 (by kernel_rfl) (by kernel_rfl) (by kernel_rfl) eq91 trivial (fun _ => by kernel_rfl)
noncomputable def g91 (x0 : List (List AV)) (x1 : Bool) : Option (Int × List (List AV) × Bool) := S91.g [.l x0, .b x1]
noncomputable def g91L0 (k : Nat) (x0 : List (List AV)) (x1 : Bool) (x2 : Int) (x3 : Int) : Option (Int × List (List AV) × Bool) := iterL (fun rec vs => STree.run Try.prog P91 A91 R91 T91L0 (updR (fun _ _ => none) 0 rec) (bind zeroE 0 vs)) k [.l x0, .b x1, .i x2, .i x3]
theorem g91L0_eq (k : Nat) (x0 : List (List AV)) (x1 : Bool) (x2 : Int) (x3 : Int) : g91L0 (k + 1) x0 x1 x2 x3 =
    (if (cop .lss x3 5) = true then
      if x1 = true then
        some (0, x0, true)
      else
        if (cop .eql (List.length x0 : Int) 0) = true then
          some (0, x0, true)
        else
          elemK x0 0 [.int .u8] fun (r4 : Int) =>
          reqK ((0 : Int) ≤ 1) <|
          reqK ((1 : Int) ≤ (List.length x0 : Int)) <|
          reqK ((128 : Int) ≠ 0) <|
          reqK ((0 : Int) ≤ (IntKind.wrap .u64 (iop .mul .i64 7 x3))) <|
          if (cop .lss (IntKind.wrap .i64 r4) 128) = true then
            some ((iop .add .i64 x2 (iop .shl .i64 (iop .rem .i64 (IntKind.wrap .i64 r4) 128) (IntKind.wrap .u64 (iop .mul .i64 7 x3)))), (List.drop (Int.toNat 1) x0), x1)
          else
            g91L0 k (List.drop (Int.toNat 1) x0) x1 (iop .add .i64 x2 (iop .shl .i64 (iop .rem .i64 (IntKind.wrap .i64 r4) 128) (IntKind.wrap .u64 (iop .mul .i64 7 x3)))) (iop .add .i64 x3 1)
    else
      some (0, x0, true)) := by kernel_rfl
theorem g91_eq (x0 : List (List AV)) (x1 : Bool) : g91 x0 x1 =
    (g91L0 FUEL x0 x1 0 0) := by kernel_rfl

/- (*multikernel/multikernelref10.Reader).Id -/
def E90 : Env := envG 14 [2] [] [0]
def A90 : List AP := [.box [.slice 1, .bool]]
def R90 : List RSh := [.agg [.int .i64, .int .i64, .int .i64]]
def T90 : STree := (.call 91 [(.box [(.c (.slice false 1 (.var 0))), (.c (.bool (.var 1)))])] (.c (.int .i64 (.var 2))) [(.box [(.c (.slice false 1 (.var 3))), (.c (.bool (.var 4)))])] 2 [.int .i64, .slice 1, .bool]
 (.call 91 [(.box [(.c (.slice false 1 (.var 3))), (.c (.bool (.var 4)))])] (.c (.int .i64 (.var 5))) [(.box [(.c (.slice false 1 (.var 6))), (.c (.bool (.var 7)))])] 5 [.int .i64, .slice 1, .bool]
 (.call 91 [(.box [(.c (.slice false 1 (.var 6))), (.c (.bool (.var 7)))])] (.c (.int .i64 (.var 8))) [(.box [(.c (.slice false 1 (.var 9))), (.c (.bool (.var 10)))])] 8 [.int .i64, .slice 1, .bool]
 (.ret (.agg [(.int .i64 (.var 2)), (.int .i64 (.var 5)), (.int .i64 (.var 8))]) [(.box [(.c (.slice false 1 (.var 9))), (.c (.bool (.var 10)))])]))))
theorem eq90 : evFn Try.prog E90 Try.f90 (argsAt A90 0) 2 = T90 := by kernel_rfl
noncomputable def P90 : List (FuncId × Fun) := [(91, S91)]
noncomputable def S90 : Fun := ⟨A90, R90, fun vs => T90.run Try.prog P90 A90 R90 (fun _ _ => none) (envL vs)⟩
theorem ok90 : S90.Ok Try.prog 90 := fun_ok (Φ := P90) (S := S90) mixed plain_ok Try.func90 (by kernel_rfl) (by kernel_rfl) (by kernel_rfl) eq90 (And.intro ok91 trivial) (fun _ => by kernel_rfl)
noncomputable def g90 (x0 : List (List AV)) (x1 : Bool) : Option (Int × Int × Int × List (List AV) × Bool) := S90.g [.l x0, .b x1]
theorem g90_eq (x0 : List (List AV)) (x1 : Bool) : g90 x0 x1 =
    ((g91 x0 x1).bind fun (r2 : Int × List (List AV) × Bool) =>
    (g91 r2.2.1 r2.2.2).bind fun (r5 : Int × List (List AV) × Bool) =>
    (g91 r5.2.1 r5.2.2).bind fun (r8 : Int × List (List AV) × Bool) =>
    some (r2.1, r5.1, r8.1, r8.2.1, r8.2.2)) := by kernel_rfl

/- (*multikernel/multikernelref10.Reader).Take -/
def E92 : Env := envG 42 [4] [] [0]
def A92 : List AP := [.box [.slice 1, .bool], .c (.int .i64)]
def R92 : List RSh := [.c (.slice 1)]
def T92 : STree := (.branch (.var 1)
 (.ret (.own 5 .nil) [(.box [(.c (.slice false 1 (.var 0))), (.c (.bool (.lit true)))]), .dead])
 (.branch (.cmp .lss (.var 2) (.lit 0))
  (.ret (.own 5 .nil) [(.box [(.c (.slice false 1 (.var 0))), (.c (.bool (.lit true)))]), .dead])
  (.branch (.cmp .gtr (.var 2) (.len (.var 0)))
   (.ret (.own 5 .nil) [(.box [(.c (.slice false 1 (.var 0))), (.c (.bool (.lit true)))]), .dead])
   (.req (.le (.lit 0) (.var 2))
    (.req (.le (.var 2) (.len (.var 0)))
    (.req (.le (.lit 0) (.var 2))
    (.req (.le (.var 2) (.len (.var 0)))
    (.ret (.c (.slice false 1 (.take (.var 0) (.var 2)))) [(.box [(.c (.slice false 1 (.drop (.var 0) (.var 2)))), (.c (.bool (.var 1)))]), .dead]))))))))
theorem eq92 : evFn Try.prog E92 Try.f92 (argsAt A92 0) 3 = T92 := by kernel_rfl
noncomputable def P92 : List (FuncId × Fun) := []
noncomputable def S92 : Fun := ⟨A92, R92, fun vs => T92.run Try.prog P92 A92 R92 (fun _ _ => none) (envL vs)⟩
theorem ok92 : S92.Ok Try.prog 92 := fun_ok (Φ := P92) (S := S92) mixed plain_ok Try.func92 (by kernel_rfl) (by kernel_rfl) (by kernel_rfl) eq92 trivial (fun _ => by kernel_rfl)
noncomputable def g92 (x0 : List (List AV)) (x1 : Bool) (x2 : Int) : Option (List (List AV) × List (List AV) × Bool) := S92.g [.l x0, .b x1, .i x2]
theorem g92_eq (x0 : List (List AV)) (x1 : Bool) (x2 : Int) : g92 x0 x1 x2 =
    (if x1 = true then
      some (([] : List (List AV)), x0, true)
    else
      if (cop .lss x2 0) = true then
        some (([] : List (List AV)), x0, true)
      else
        if (cop .gtr x2 (List.length x0 : Int)) = true then
          some (([] : List (List AV)), x0, true)
        else
          reqK ((0 : Int) ≤ x2) <|
          reqK ((x2 : Int) ≤ (List.length x0 : Int)) <|
          reqK ((0 : Int) ≤ x2) <|
          reqK ((x2 : Int) ≤ (List.length x0 : Int)) <|
          some ((List.take (Int.toNat x2) x0), (List.drop (Int.toNat x2) x0), x1)) := by kernel_rfl

/- multikernel/multikernelref10.SameBytes -/
def E93 : Env := envG 10 [4] [] []
def A93 : List AP := [.c (.slice 1), .c (.slice 1)]
def R93 : List RSh := [.c (.bool)]
def T93 : STree := (.req (.bytes (.var 0))
 (.req (.bytes (.var 1))
 (.ret (.c (.bool (.seq (.bytes (.var 0)) (.bytes (.var 1))))) [.dead, .dead])))
theorem eq93 : evFn Try.prog E93 Try.f93 (argsAt A93 0) 2 = T93 := by kernel_rfl
noncomputable def P93 : List (FuncId × Fun) := []
noncomputable def S93 : Fun := ⟨A93, R93, fun vs => T93.run Try.prog P93 A93 R93 (fun _ _ => none) (envL vs)⟩
theorem ok93 : S93.Ok Try.prog 93 := fun_ok (Φ := P93) (S := S93) mixed plain_ok Try.func93 (by kernel_rfl) (by kernel_rfl) (by kernel_rfl) eq93 trivial (fun _ => by kernel_rfl)
noncomputable def g93 (x0 : List (List AV)) (x1 : List (List AV)) : Option (Bool) := S93.g [.l x0, .l x1]
theorem g93_eq (x0 : List (List AV)) (x1 : List (List AV)) : g93 x0 x1 =
    (reqK (bytesP x0) <|
    reqK (bytesP x1) <|
    some ((ByteArray.toList (bytesOf x0) == ByteArray.toList (bytesOf x1)))) := by kernel_rfl

/- multikernel/multikernelref10.DecodeNode -/
def E66 : Env := envG 72 [2, 3] [(5, [(0, .c (.slice 1)), (2, .box [.int .i64, .int .i64, .int .i64, .slice 3, .int .i64, .int .i64, .int .i64, .int .i64, .int .i64, .int .i64, .bool]), (4, .ptr 14 0), (5, .box [.int .i64, .int .i64, .int .i64, .own 55, .int .i64, .int .i64, .int .i64, .int .i64, .int .i64, .int .i64, .bool]), (6, .c (.int .i64)), (7, .c (.int .i64)), (14, .box [.slice 1, .bool])])] []
def A66 : List AP := [.c (.slice 1)]
def R66 : List RSh := [.agg [.int .i64, .int .i64, .int .i64, .slice 3, .int .i64, .int .i64, .int .i64, .int .i64, .int .i64, .int .i64, .bool], .c (.int .i64)]
def T66L0 : STree := (.branch (.cmp .lss (.var 24) (.var 23))
 (.branch (.not (.var 26))
  (.call 90 [(.box [(.c (.slice false 1 (.var 25))), (.c (.bool (.var 26)))])] (.agg [(.int .i64 (.var 27)), (.int .i64 (.var 28)), (.int .i64 (.var 29))]) [(.box [(.c (.slice false 1 (.var 30))), (.c (.bool (.var 31)))])] 27 [.int .i64, .int .i64, .int .i64, .slice 1, .bool]
   (.req (.room (.var 15) (.snoc .nil (.cons (.int .i64 (.var 27)) (.cons (.int .i64 (.var 28)) (.cons (.int .i64 (.var 29)) .nil)))) 24)
   (.again 0 [(.l (.var 0)), (.i (.var 1)), (.i (.var 2)), (.i (.var 3)), (.l (.var 4)), (.i (.var 5)), (.i (.var 6)), (.i (.var 7)), (.i (.var 8)), (.i (.var 9)), (.i (.var 10)), (.b (.var 11)), (.i (.var 12)), (.i (.var 13)), (.i (.var 14)), (.l (.app (.var 15) (.snoc .nil (.cons (.int .i64 (.var 27)) (.cons (.int .i64 (.var 28)) (.cons (.int .i64 (.var 29)) .nil)))))), (.i (.var 16)), (.i (.var 17)), (.i (.var 18)), (.i (.var 19)), (.i (.var 20)), (.i (.var 21)), (.b (.var 22)), (.i (.var 23)), (.i (.bin .add .i64 (.var 24) (.lit 1))), (.l (.var 30)), (.b (.var 31))])))
  (.call 92 [(.box [(.c (.slice false 1 (.var 25))), (.c (.bool (.var 26)))]), (.c (.int .i64 (.lit 10)))] (.c (.slice false 1 (.var 27))) [(.box [(.c (.slice false 1 (.var 28))), (.c (.bool (.var 29)))]), .dead] 27 [.slice 1, .slice 1, .bool]
   (.call 41 [(.c (.slice false 1 (.var 27)))] (.tuple [(.agg [(.int .i64 (.var 30)), (.int .i64 (.var 31)), (.int .i64 (.var 32)), (.int .i64 (.var 33)), (.int .i64 (.var 34)), (.int .i64 (.var 35)), (.bool (.var 36))]), (.c (.int .i64 (.var 37)))]) [.dead] 30 [.int .i64, .int .i64, .int .i64, .int .i64, .int .i64, .int .i64, .bool, .int .i64]
   (.call 64 [(.agg [(.int .i64 (.var 12)), (.int .i64 (.var 13)), (.int .i64 (.var 14)), (.slice false 3 (.var 15)), (.int .i64 (.var 30)), (.int .i64 (.var 31)), (.int .i64 (.var 32)), (.int .i64 (.var 33)), (.int .i64 (.var 34)), (.int .i64 (.var 35)), (.bool (.var 36))])] (.tuple [(.own 5 (.var 38)), (.c (.int .i64 (.var 39)))]) [.dead] 38 [.own 5, .int .i64]
   (.branch (.var 29)
   (.ret (.tuple [(.agg [(.int .i64 (.lit 0)), (.int .i64 (.lit 0)), (.int .i64 (.lit 0)), (.slice true 0 .nil), (.int .i64 (.lit 0)), (.int .i64 (.lit 0)), (.int .i64 (.lit 0)), (.int .i64 (.lit 0)), (.int .i64 (.lit 0)), (.int .i64 (.lit 0)), (.bool (.lit false))]), (.c (.int .i64 (.lit 14)))]) [.dead])
   (.branch (.cmp .neq (.var 37) (.lit 0))
    (.ret (.tuple [(.agg [(.int .i64 (.lit 0)), (.int .i64 (.lit 0)), (.int .i64 (.lit 0)), (.slice true 0 .nil), (.int .i64 (.lit 0)), (.int .i64 (.lit 0)), (.int .i64 (.lit 0)), (.int .i64 (.lit 0)), (.int .i64 (.lit 0)), (.int .i64 (.lit 0)), (.bool (.lit false))]), (.c (.int .i64 (.lit 14)))]) [.dead])
    (.branch (.cmp .neq (.var 39) (.lit 0))
     (.ret (.tuple [(.agg [(.int .i64 (.lit 0)), (.int .i64 (.lit 0)), (.int .i64 (.lit 0)), (.slice true 0 .nil), (.int .i64 (.lit 0)), (.int .i64 (.lit 0)), (.int .i64 (.lit 0)), (.int .i64 (.lit 0)), (.int .i64 (.lit 0)), (.int .i64 (.lit 0)), (.bool (.lit false))]), (.c (.int .i64 (.lit 14)))]) [.dead])
     (.call 93 [(.c (.slice false 1 (.var 38))), (.c (.slice false 1 (.var 0)))] (.c (.bool (.var 40))) [.dead, .dead] 40 [.bool]
      (.branch (.not (.var 40))
      (.ret (.tuple [(.agg [(.int .i64 (.lit 0)), (.int .i64 (.lit 0)), (.int .i64 (.lit 0)), (.slice true 0 .nil), (.int .i64 (.lit 0)), (.int .i64 (.lit 0)), (.int .i64 (.lit 0)), (.int .i64 (.lit 0)), (.int .i64 (.lit 0)), (.int .i64 (.lit 0)), (.bool (.lit false))]), (.c (.int .i64 (.lit 14)))]) [.dead])
      (.ret (.tuple [(.agg [(.int .i64 (.var 12)), (.int .i64 (.var 13)), (.int .i64 (.var 14)), (.slice false 3 (.var 15)), (.int .i64 (.var 30)), (.int .i64 (.var 31)), (.int .i64 (.var 32)), (.int .i64 (.var 33)), (.int .i64 (.var 34)), (.int .i64 (.var 35)), (.bool (.var 36))]), (.c (.int .i64 (.lit 0)))]) [.dead]))))))))))
 (.call 92 [(.box [(.c (.slice false 1 (.var 25))), (.c (.bool (.var 26)))]), (.c (.int .i64 (.lit 10)))] (.c (.slice false 1 (.var 27))) [(.box [(.c (.slice false 1 (.var 28))), (.c (.bool (.var 29)))]), .dead] 27 [.slice 1, .slice 1, .bool]
  (.call 41 [(.c (.slice false 1 (.var 27)))] (.tuple [(.agg [(.int .i64 (.var 30)), (.int .i64 (.var 31)), (.int .i64 (.var 32)), (.int .i64 (.var 33)), (.int .i64 (.var 34)), (.int .i64 (.var 35)), (.bool (.var 36))]), (.c (.int .i64 (.var 37)))]) [.dead] 30 [.int .i64, .int .i64, .int .i64, .int .i64, .int .i64, .int .i64, .bool, .int .i64]
  (.call 64 [(.agg [(.int .i64 (.var 12)), (.int .i64 (.var 13)), (.int .i64 (.var 14)), (.slice false 3 (.var 15)), (.int .i64 (.var 30)), (.int .i64 (.var 31)), (.int .i64 (.var 32)), (.int .i64 (.var 33)), (.int .i64 (.var 34)), (.int .i64 (.var 35)), (.bool (.var 36))])] (.tuple [(.own 5 (.var 38)), (.c (.int .i64 (.var 39)))]) [.dead] 38 [.own 5, .int .i64]
  (.branch (.var 29)
  (.ret (.tuple [(.agg [(.int .i64 (.lit 0)), (.int .i64 (.lit 0)), (.int .i64 (.lit 0)), (.slice true 0 .nil), (.int .i64 (.lit 0)), (.int .i64 (.lit 0)), (.int .i64 (.lit 0)), (.int .i64 (.lit 0)), (.int .i64 (.lit 0)), (.int .i64 (.lit 0)), (.bool (.lit false))]), (.c (.int .i64 (.lit 14)))]) [.dead])
  (.branch (.cmp .neq (.var 37) (.lit 0))
   (.ret (.tuple [(.agg [(.int .i64 (.lit 0)), (.int .i64 (.lit 0)), (.int .i64 (.lit 0)), (.slice true 0 .nil), (.int .i64 (.lit 0)), (.int .i64 (.lit 0)), (.int .i64 (.lit 0)), (.int .i64 (.lit 0)), (.int .i64 (.lit 0)), (.int .i64 (.lit 0)), (.bool (.lit false))]), (.c (.int .i64 (.lit 14)))]) [.dead])
   (.branch (.cmp .neq (.var 39) (.lit 0))
    (.ret (.tuple [(.agg [(.int .i64 (.lit 0)), (.int .i64 (.lit 0)), (.int .i64 (.lit 0)), (.slice true 0 .nil), (.int .i64 (.lit 0)), (.int .i64 (.lit 0)), (.int .i64 (.lit 0)), (.int .i64 (.lit 0)), (.int .i64 (.lit 0)), (.int .i64 (.lit 0)), (.bool (.lit false))]), (.c (.int .i64 (.lit 14)))]) [.dead])
    (.call 93 [(.c (.slice false 1 (.var 38))), (.c (.slice false 1 (.var 0)))] (.c (.bool (.var 40))) [.dead, .dead] 40 [.bool]
     (.branch (.not (.var 40))
     (.ret (.tuple [(.agg [(.int .i64 (.lit 0)), (.int .i64 (.lit 0)), (.int .i64 (.lit 0)), (.slice true 0 .nil), (.int .i64 (.lit 0)), (.int .i64 (.lit 0)), (.int .i64 (.lit 0)), (.int .i64 (.lit 0)), (.int .i64 (.lit 0)), (.int .i64 (.lit 0)), (.bool (.lit false))]), (.c (.int .i64 (.lit 14)))]) [.dead])
     (.ret (.tuple [(.agg [(.int .i64 (.var 12)), (.int .i64 (.var 13)), (.int .i64 (.var 14)), (.slice false 3 (.var 15)), (.int .i64 (.var 30)), (.int .i64 (.var 31)), (.int .i64 (.var 32)), (.int .i64 (.var 33)), (.int .i64 (.var 34)), (.int .i64 (.var 35)), (.bool (.var 36))]), (.c (.int .i64 (.lit 0)))]) [.dead]))))))))))
def T66 : STree := (.call 90 [(.box [(.c (.slice false 1 (.var 0))), (.c (.bool (.lit false)))])] (.agg [(.int .i64 (.var 1)), (.int .i64 (.var 2)), (.int .i64 (.var 3))]) [(.box [(.c (.slice false 1 (.var 4))), (.c (.bool (.var 5)))])] 1 [.int .i64, .int .i64, .int .i64, .slice 1, .bool]
 (.call 91 [(.box [(.c (.slice false 1 (.var 4))), (.c (.bool (.var 5)))])] (.c (.int .i64 (.var 6))) [(.box [(.c (.slice false 1 (.var 7))), (.c (.bool (.var 8)))])] 6 [.int .i64, .slice 1, .bool]
 (.loop 0 [(.l (.var 0)), (.i (.lit 0)), (.i (.lit 0)), (.i (.lit 0)), (.l .nil), (.i (.lit 0)), (.i (.lit 0)), (.i (.lit 0)), (.i (.lit 0)), (.i (.lit 0)), (.i (.lit 0)), (.b (.lit false)), (.i (.var 1)), (.i (.var 2)), (.i (.var 3)), (.l .nil), (.i (.lit 0)), (.i (.lit 0)), (.i (.lit 0)), (.i (.lit 0)), (.i (.lit 0)), (.i (.lit 0)), (.b (.lit false)), (.i (.var 6)), (.i (.lit 0)), (.l (.var 7)), (.b (.var 8))] 0 T66L0)))
theorem eq66 : evFn Try.prog E66 Try.f66 (argsAt A66 0) 1 = T66 := by kernel_rfl
noncomputable def P66 : List (FuncId × Fun) := [(90, S90), (91, S91), (92, S92), (41, S41), (64, S64), (93, S93)]
noncomputable def S66 : Fun := ⟨A66, R66, fun vs => T66.run Try.prog P66 A66 R66 (fun _ _ => none) (envL vs)⟩
theorem ok66 : S66.Ok Try.prog 66 := fun_ok (Φ := P66) (S := S66) mixed plain_ok Try.func66 (by kernel_rfl) (by kernel_rfl) (by kernel_rfl) eq66 (And.intro ok90 (And.intro ok91 (And.intro ok92 (And.intro ok41 (And.intro ok64 (And.intro ok93 trivial)))))) (fun _ => by kernel_rfl)
noncomputable def g66 (x0 : List (List AV)) : Option (Int × Int × Int × List (List AV) × Int × Int × Int × Int × Int × Int × Bool × Int) := S66.g [.l x0]
noncomputable def g66L0 (k : Nat) (x0 : List (List AV)) (x1 : Int) (x2 : Int) (x3 : Int) (x4 : List (List AV)) (x5 : Int) (x6 : Int) (x7 : Int) (x8 : Int) (x9 : Int) (x10 : Int) (x11 : Bool) (x12 : Int) (x13 : Int) (x14 : Int) (x15 : List (List AV)) (x16 : Int) (x17 : Int) (x18 : Int) (x19 : Int) (x20 : Int) (x21 : Int) (x22 : Bool) (x23 : Int) (x24 : Int) (x25 : List (List AV)) (x26 : Bool) : Option (Int × Int × Int × List (List AV) × Int × Int × Int × Int × Int × Int × Bool × Int) := iterL (fun rec vs => STree.run Try.prog P66 A66 R66 T66L0 (updR (fun _ _ => none) 0 rec) (bind zeroE 0 vs)) k [.l x0, .i x1, .i x2, .i x3, .l x4, .i x5, .i x6, .i x7, .i x8, .i x9, .i x10, .b x11, .i x12, .i x13, .i x14, .l x15, .i x16, .i x17, .i x18, .i x19, .i x20, .i x21, .b x22, .i x23, .i x24, .l x25, .b x26]
theorem g66L0_eq (k : Nat) (x0 : List (List AV)) (x1 : Int) (x2 : Int) (x3 : Int) (x4 : List (List AV)) (x5 : Int) (x6 : Int) (x7 : Int) (x8 : Int) (x9 : Int) (x10 : Int) (x11 : Bool) (x12 : Int) (x13 : Int) (x14 : Int) (x15 : List (List AV)) (x16 : Int) (x17 : Int) (x18 : Int) (x19 : Int) (x20 : Int) (x21 : Int) (x22 : Bool) (x23 : Int) (x24 : Int) (x25 : List (List AV)) (x26 : Bool) : g66L0 (k + 1) x0 x1 x2 x3 x4 x5 x6 x7 x8 x9 x10 x11 x12 x13 x14 x15 x16 x17 x18 x19 x20 x21 x22 x23 x24 x25 x26 =
    (if (cop .lss x24 x23) = true then
      if (!x26) = true then
        (g90 x25 x26).bind fun (r27 : Int × Int × Int × List (List AV) × Bool) =>
        reqK (roomP x15 (([] : List (List AV)) ++ [[AV.val (.int .i64 r27.1), AV.val (.int .i64 r27.2.1), AV.val (.int .i64 r27.2.2.1)]]) 24) <|
        g66L0 k x0 x1 x2 x3 x4 x5 x6 x7 x8 x9 x10 x11 x12 x13 x14 (x15 ++ (([] : List (List AV)) ++ [[AV.val (.int .i64 r27.1), AV.val (.int .i64 r27.2.1), AV.val (.int .i64 r27.2.2.1)]])) x16 x17 x18 x19 x20 x21 x22 x23 (iop .add .i64 x24 1) r27.2.2.2.1 r27.2.2.2.2
      else
        (g92 x25 x26 10).bind fun (r27 : List (List AV) × List (List AV) × Bool) =>
        (g41 r27.1).bind fun (r30 : Int × Int × Int × Int × Int × Int × Bool × Int) =>
        (g64 x12 x13 x14 x15 r30.1 r30.2.1 r30.2.2.1 r30.2.2.2.1 r30.2.2.2.2.1 r30.2.2.2.2.2.1 r30.2.2.2.2.2.2.1).bind fun (r38 : List (List AV) × Int) =>
        if r27.2.2 = true then
          some (0, 0, 0, ([] : List (List AV)), 0, 0, 0, 0, 0, 0, false, 14)
        else
          if (cop .neq r30.2.2.2.2.2.2.2 0) = true then
            some (0, 0, 0, ([] : List (List AV)), 0, 0, 0, 0, 0, 0, false, 14)
          else
            if (cop .neq r38.2 0) = true then
              some (0, 0, 0, ([] : List (List AV)), 0, 0, 0, 0, 0, 0, false, 14)
            else
              (g93 r38.1 x0).bind fun (r40 : Bool) =>
              if (!r40) = true then
                some (0, 0, 0, ([] : List (List AV)), 0, 0, 0, 0, 0, 0, false, 14)
              else
                some (x12, x13, x14, x15, r30.1, r30.2.1, r30.2.2.1, r30.2.2.2.1, r30.2.2.2.2.1, r30.2.2.2.2.2.1, r30.2.2.2.2.2.2.1, 0)
    else
      (g92 x25 x26 10).bind fun (r27 : List (List AV) × List (List AV) × Bool) =>
      (g41 r27.1).bind fun (r30 : Int × Int × Int × Int × Int × Int × Bool × Int) =>
      (g64 x12 x13 x14 x15 r30.1 r30.2.1 r30.2.2.1 r30.2.2.2.1 r30.2.2.2.2.1 r30.2.2.2.2.2.1 r30.2.2.2.2.2.2.1).bind fun (r38 : List (List AV) × Int) =>
      if r27.2.2 = true then
        some (0, 0, 0, ([] : List (List AV)), 0, 0, 0, 0, 0, 0, false, 14)
      else
        if (cop .neq r30.2.2.2.2.2.2.2 0) = true then
          some (0, 0, 0, ([] : List (List AV)), 0, 0, 0, 0, 0, 0, false, 14)
        else
          if (cop .neq r38.2 0) = true then
            some (0, 0, 0, ([] : List (List AV)), 0, 0, 0, 0, 0, 0, false, 14)
          else
            (g93 r38.1 x0).bind fun (r40 : Bool) =>
            if (!r40) = true then
              some (0, 0, 0, ([] : List (List AV)), 0, 0, 0, 0, 0, 0, false, 14)
            else
              some (x12, x13, x14, x15, r30.1, r30.2.1, r30.2.2.1, r30.2.2.2.1, r30.2.2.2.2.1, r30.2.2.2.2.2.1, r30.2.2.2.2.2.2.1, 0)) := by kernel_rfl
theorem g66_eq (x0 : List (List AV)) : g66 x0 =
    ((g90 x0 false).bind fun (r1 : Int × Int × Int × List (List AV) × Bool) =>
    (g91 r1.2.2.2.1 r1.2.2.2.2).bind fun (r6 : Int × List (List AV) × Bool) =>
    g66L0 FUEL x0 0 0 0 ([] : List (List AV)) 0 0 0 0 0 0 false r1.1 r1.2.1 r1.2.2.1 ([] : List (List AV)) 0 0 0 0 0 0 false r6.1 0 r6.2.1 r6.2.2) := by kernel_rfl

/- multikernel/multikernellaw12.NodeCodecExact -/
def E18 : Env := envG 68 [4] [] []
def A18 : List AP := [.agg [.int .i64, .int .i64, .int .i64, .slice 3, .int .i64, .int .i64, .int .i64, .int .i64, .int .i64, .int .i64, .bool], .c (.slice 1)]
def R18 : List RSh := [.c (.bool)]
def T18 : STree := (.branch (.cmp .gtr (.len (.var 3)) (.lit 40))
 (.call 42 [] (.c (.bool (.var 12))) [] 12 [.bool]
  (.ret (.c (.bool (.var 12))) [.dead, .dead]))
 (.branch (.cmp .gtr (.len (.var 11)) (.lit 400))
  (.call 42 [] (.c (.bool (.var 12))) [] 12 [.bool]
   (.ret (.c (.bool (.var 12))) [.dead, .dead]))
  (.call 44 [(.agg [(.int .i64 (.var 0)), (.int .i64 (.var 1)), (.int .i64 (.var 2)), (.slice false 3 (.var 3)), (.int .i64 (.var 4)), (.int .i64 (.var 5)), (.int .i64 (.var 6)), (.int .i64 (.var 7)), (.int .i64 (.var 8)), (.int .i64 (.var 9)), (.bool (.var 10))])] (.agg [(.int .i64 (.var 12)), (.int .i64 (.var 13)), (.int .i64 (.var 14)), (.slice false 3 (.var 15)), (.int .i64 (.var 16)), (.int .i64 (.var 17)), (.int .i64 (.var 18)), (.int .i64 (.var 19)), (.int .i64 (.var 20)), (.int .i64 (.var 21)), (.bool (.var 22))]) [.dead] 12 [.int .i64, .int .i64, .int .i64, .slice 3, .int .i64, .int .i64, .int .i64, .int .i64, .int .i64, .int .i64, .bool]
   (.call 63 [(.agg [(.int .i64 (.var 12)), (.int .i64 (.var 13)), (.int .i64 (.var 14)), (.slice false 3 (.var 15)), (.int .i64 (.var 16)), (.int .i64 (.var 17)), (.int .i64 (.var 18)), (.int .i64 (.var 19)), (.int .i64 (.var 20)), (.int .i64 (.var 21)), (.bool (.var 22))])] (.tuple [(.own 5 (.var 23)), (.c (.int .i64 (.var 24)))]) [.dead] 23 [.own 5, .int .i64]
   (.call 64 [(.agg [(.int .i64 (.var 0)), (.int .i64 (.var 1)), (.int .i64 (.var 2)), (.slice false 3 (.var 3)), (.int .i64 (.var 4)), (.int .i64 (.var 5)), (.int .i64 (.var 6)), (.int .i64 (.var 7)), (.int .i64 (.var 8)), (.int .i64 (.var 9)), (.bool (.var 10))])] (.tuple [(.own 5 (.var 25)), (.c (.int .i64 (.var 26)))]) [.dead] 25 [.own 5, .int .i64]
   (.req (.room .nil (.var 11) 1)
   (.call 65 [(.own 5 (.var 11))] (.tuple [(.agg [(.int .i64 (.var 27)), (.int .i64 (.var 28)), (.int .i64 (.var 29)), (.slice false 3 (.var 30)), (.int .i64 (.var 31)), (.int .i64 (.var 32)), (.int .i64 (.var 33)), (.int .i64 (.var 34)), (.int .i64 (.var 35)), (.int .i64 (.var 36)), (.bool (.var 37))]), (.c (.int .i64 (.var 38)))]) [.dead] 27 [.int .i64, .int .i64, .int .i64, .slice 3, .int .i64, .int .i64, .int .i64, .int .i64, .int .i64, .int .i64, .bool, .int .i64]
   (.call 66 [(.c (.slice false 1 (.var 11)))] (.tuple [(.agg [(.int .i64 (.var 39)), (.int .i64 (.var 40)), (.int .i64 (.var 41)), (.slice false 3 (.var 42)), (.int .i64 (.var 43)), (.int .i64 (.var 44)), (.int .i64 (.var 45)), (.int .i64 (.var 46)), (.int .i64 (.var 47)), (.int .i64 (.var 48)), (.bool (.var 49))]), (.c (.int .i64 (.var 50)))]) [.dead] 39 [.int .i64, .int .i64, .int .i64, .slice 3, .int .i64, .int .i64, .int .i64, .int .i64, .int .i64, .int .i64, .bool, .int .i64]
   (.req (.bytes (.var 23))
   (.req (.bytes (.var 25))
   (.branch (.seq (.bytes (.var 23)) (.bytes (.var 25)))
   (.branch (.cmp .eql (.var 24) (.var 26))
    (.call 46 [(.agg [(.int .i64 (.var 27)), (.int .i64 (.var 28)), (.int .i64 (.var 29)), (.slice false 3 (.var 30)), (.int .i64 (.var 31)), (.int .i64 (.var 32)), (.int .i64 (.var 33)), (.int .i64 (.var 34)), (.int .i64 (.var 35)), (.int .i64 (.var 36)), (.bool (.var 37))]), (.agg [(.int .i64 (.var 39)), (.int .i64 (.var 40)), (.int .i64 (.var 41)), (.slice false 3 (.var 42)), (.int .i64 (.var 43)), (.int .i64 (.var 44)), (.int .i64 (.var 45)), (.int .i64 (.var 46)), (.int .i64 (.var 47)), (.int .i64 (.var 48)), (.bool (.var 49))])] (.c (.bool (.var 51))) [.dead, .dead] 51 [.bool]
     (.branch (.var 51)
     (.branch (.cmp .eql (.var 38) (.var 50))
      (.call 42 [] (.c (.bool (.var 52))) [] 52 [.bool]
       (.ret (.c (.bool (.var 52))) [.dead, .dead]))
      (.ret (.c (.bool (.lit false))) [.dead, .dead]))
     (.ret (.c (.bool (.lit false))) [.dead, .dead])))
    (.ret (.c (.bool (.lit false))) [.dead, .dead]))
   (.ret (.c (.bool (.lit false))) [.dead, .dead]))))))))))))
theorem eq18 : evFn Try.prog E18 Try.f18 (argsAt A18 0) 12 = T18 := by kernel_rfl
noncomputable def P18 : List (FuncId × Fun) := [(42, S42), (44, S44), (63, S63), (64, S64), (65, S65), (66, S66), (46, S46)]
noncomputable def S18 : Fun := ⟨A18, R18, fun vs => T18.run Try.prog P18 A18 R18 (fun _ _ => none) (envL vs)⟩
theorem ok18 : S18.Ok Try.prog 18 := fun_ok (Φ := P18) (S := S18) mixed plain_ok Try.func18 (by kernel_rfl) (by kernel_rfl) (by kernel_rfl) eq18 (And.intro ok42 (And.intro ok44 (And.intro ok63 (And.intro ok64 (And.intro ok65 (And.intro ok66 (And.intro ok46 trivial))))))) (fun _ => by kernel_rfl)
noncomputable def g18 (x0 : Int) (x1 : Int) (x2 : Int) (x3 : List (List AV)) (x4 : Int) (x5 : Int) (x6 : Int) (x7 : Int) (x8 : Int) (x9 : Int) (x10 : Bool) (x11 : List (List AV)) : Option (Bool) := S18.g [.i x0, .i x1, .i x2, .l x3, .i x4, .i x5, .i x6, .i x7, .i x8, .i x9, .b x10, .l x11]
theorem g18_eq (x0 : Int) (x1 : Int) (x2 : Int) (x3 : List (List AV)) (x4 : Int) (x5 : Int) (x6 : Int) (x7 : Int) (x8 : Int) (x9 : Int) (x10 : Bool) (x11 : List (List AV)) : g18 x0 x1 x2 x3 x4 x5 x6 x7 x8 x9 x10 x11 =
    (if (cop .gtr (List.length x3 : Int) 40) = true then
      (g42).bind fun (r12 : Bool) =>
      some (r12)
    else
      if (cop .gtr (List.length x11 : Int) 400) = true then
        (g42).bind fun (r12 : Bool) =>
        some (r12)
      else
        (g44 x0 x1 x2 x3 x4 x5 x6 x7 x8 x9 x10).bind fun (r12 : Int × Int × Int × List (List AV) × Int × Int × Int × Int × Int × Int × Bool) =>
        (g63 r12.1 r12.2.1 r12.2.2.1 r12.2.2.2.1 r12.2.2.2.2.1 r12.2.2.2.2.2.1 r12.2.2.2.2.2.2.1 r12.2.2.2.2.2.2.2.1 r12.2.2.2.2.2.2.2.2.1 r12.2.2.2.2.2.2.2.2.2.1 r12.2.2.2.2.2.2.2.2.2.2).bind fun (r23 : List (List AV) × Int) =>
        (g64 x0 x1 x2 x3 x4 x5 x6 x7 x8 x9 x10).bind fun (r25 : List (List AV) × Int) =>
        reqK (roomP ([] : List (List AV)) x11 1) <|
        (g65 x11).bind fun (r27 : Int × Int × Int × List (List AV) × Int × Int × Int × Int × Int × Int × Bool × Int) =>
        (g66 x11).bind fun (r39 : Int × Int × Int × List (List AV) × Int × Int × Int × Int × Int × Int × Bool × Int) =>
        reqK (bytesP r23.1) <|
        reqK (bytesP r25.1) <|
        if (ByteArray.toList (bytesOf r23.1) == ByteArray.toList (bytesOf r25.1)) = true then
          if (cop .eql r23.2 r25.2) = true then
            (g46 r27.1 r27.2.1 r27.2.2.1 r27.2.2.2.1 r27.2.2.2.2.1 r27.2.2.2.2.2.1 r27.2.2.2.2.2.2.1 r27.2.2.2.2.2.2.2.1 r27.2.2.2.2.2.2.2.2.1 r27.2.2.2.2.2.2.2.2.2.1 r27.2.2.2.2.2.2.2.2.2.2.1 r39.1 r39.2.1 r39.2.2.1 r39.2.2.2.1 r39.2.2.2.2.1 r39.2.2.2.2.2.1 r39.2.2.2.2.2.2.1 r39.2.2.2.2.2.2.2.1 r39.2.2.2.2.2.2.2.2.1 r39.2.2.2.2.2.2.2.2.2.1 r39.2.2.2.2.2.2.2.2.2.2.1).bind fun (r51 : Bool) =>
            if r51 = true then
              if (cop .eql r27.2.2.2.2.2.2.2.2.2.2.2 r39.2.2.2.2.2.2.2.2.2.2.2) = true then
                (g42).bind fun (r52 : Bool) =>
                some (r52)
              else
                some (false)
            else
              some (false)
          else
            some (false)
        else
          some (false)) := by kernel_rfl

/- multikernel/multikernellaw12.NodeRoundTrip -/
def E19 : Env := envG 125 [16] [] []
def A19 : List AP := [.c (.int .i64), .c (.int .i64), .c (.int .i64), .c (.slice 1), .c (.int .i64), .c (.int .i64), .c (.int .i64), .c (.slice 1)]
def R19 : List RSh := [.c (.bool)]
def T19 : STree := (.branch (.cmp .gtr (.len (.var 7)) (.lit 400))
 (.call 42 [] (.c (.bool (.var 8))) [] 8 [.bool]
  (.ret (.c (.bool (.var 8))) [.dead, .dead, .dead, .dead, .dead, .dead, .dead, .dead]))
 (.branch (.cmp .gtr (.len (.var 3)) (.lit 40))
  (.call 42 [] (.c (.bool (.var 8))) [] 8 [.bool]
   (.ret (.c (.bool (.var 8))) [.dead, .dead, .dead, .dead, .dead, .dead, .dead, .dead]))
  (.call 25 [(.c (.int .i64 (.var 4))), (.c (.int .i64 (.var 5))), (.c (.int .i64 (.var 6))), (.c (.int .i64 (.var 0))), (.c (.int .i64 (.var 1)))] (.agg [(.int .i64 (.var 8)), (.int .i64 (.var 9)), (.int .i64 (.var 10)), (.int .i64 (.var 11)), (.int .i64 (.var 12)), (.int .i64 (.var 13)), (.bool (.var 14))]) [.dead, .dead, .dead, .dead, .dead] 8 [.int .i64, .int .i64, .int .i64, .int .i64, .int .i64, .int .i64, .bool]
   (.call 47 [(.c (.int .i64 (.var 0))), (.c (.int .i64 (.var 1))), (.c (.int .i64 (.var 2))), (.c (.slice false 1 (.var 3))), (.agg [(.int .i64 (.var 8)), (.int .i64 (.var 9)), (.int .i64 (.var 10)), (.int .i64 (.var 11)), (.int .i64 (.var 12)), (.int .i64 (.var 13)), (.bool (.var 14))])] (.agg [(.int .i64 (.var 15)), (.int .i64 (.var 16)), (.int .i64 (.var 17)), (.slice false 3 (.var 18)), (.int .i64 (.var 19)), (.int .i64 (.var 20)), (.int .i64 (.var 21)), (.int .i64 (.var 22)), (.int .i64 (.var 23)), (.int .i64 (.var 24)), (.bool (.var 25))]) [.dead, .dead, .dead, .dead, .dead] 15 [.int .i64, .int .i64, .int .i64, .slice 3, .int .i64, .int .i64, .int .i64, .int .i64, .int .i64, .int .i64, .bool]
   (.call 63 [(.agg [(.int .i64 (.var 15)), (.int .i64 (.var 16)), (.int .i64 (.var 17)), (.slice false 3 (.var 18)), (.int .i64 (.var 19)), (.int .i64 (.var 20)), (.int .i64 (.var 21)), (.int .i64 (.var 22)), (.int .i64 (.var 23)), (.int .i64 (.var 24)), (.bool (.var 25))])] (.tuple [(.own 5 (.var 26)), (.c (.int .i64 (.var 27)))]) [.dead] 26 [.own 5, .int .i64]
   (.call 65 [(.c (.slice false 1 (.var 26)))] (.tuple [(.agg [(.int .i64 (.var 28)), (.int .i64 (.var 29)), (.int .i64 (.var 30)), (.slice false 3 (.var 31)), (.int .i64 (.var 32)), (.int .i64 (.var 33)), (.int .i64 (.var 34)), (.int .i64 (.var 35)), (.int .i64 (.var 36)), (.int .i64 (.var 37)), (.bool (.var 38))]), (.c (.int .i64 (.var 39)))]) [.dead] 28 [.int .i64, .int .i64, .int .i64, .slice 3, .int .i64, .int .i64, .int .i64, .int .i64, .int .i64, .int .i64, .bool, .int .i64]
   (.branch (.cmp .neq (.var 27) (.lit 0))
   (.ret (.c (.bool (.lit false))) [.dead, .dead, .dead, .dead, .dead, .dead, .dead, .dead])
   (.branch (.cmp .neq (.var 39) (.lit 0))
    (.ret (.c (.bool (.lit false))) [.dead, .dead, .dead, .dead, .dead, .dead, .dead, .dead])
    (.call 46 [(.agg [(.int .i64 (.var 15)), (.int .i64 (.var 16)), (.int .i64 (.var 17)), (.slice false 3 (.var 18)), (.int .i64 (.var 19)), (.int .i64 (.var 20)), (.int .i64 (.var 21)), (.int .i64 (.var 22)), (.int .i64 (.var 23)), (.int .i64 (.var 24)), (.bool (.var 25))]), (.agg [(.int .i64 (.var 28)), (.int .i64 (.var 29)), (.int .i64 (.var 30)), (.slice false 3 (.var 31)), (.int .i64 (.var 32)), (.int .i64 (.var 33)), (.int .i64 (.var 34)), (.int .i64 (.var 35)), (.int .i64 (.var 36)), (.int .i64 (.var 37)), (.bool (.var 38))])] (.c (.bool (.var 40))) [.dead, .dead] 40 [.bool]
     (.branch (.not (.var 40))
     (.ret (.c (.bool (.lit false))) [.dead, .dead, .dead, .dead, .dead, .dead, .dead, .dead])
     (.branch (.cmp .eql (.len (.var 26)) (.lit 0))
      (.ret (.c (.bool (.lit false))) [.dead, .dead, .dead, .dead, .dead, .dead, .dead, .dead])
      (.req (.le (.lit 0) (.bin .sub .i64 (.len (.var 26)) (.lit 1)))
       (.req (.le (.bin .sub .i64 (.len (.var 26)) (.lit 1)) (.len (.var 26)))
       (.call 65 [(.c (.slice false 1 (.take (.var 26) (.bin .sub .i64 (.len (.var 26)) (.lit 1)))))] (.tuple [(.agg [(.int .i64 (.var 41)), (.int .i64 (.var 42)), (.int .i64 (.var 43)), (.slice false 3 (.var 44)), (.int .i64 (.var 45)), (.int .i64 (.var 46)), (.int .i64 (.var 47)), (.int .i64 (.var 48)), (.int .i64 (.var 49)), (.int .i64 (.var 50)), (.bool (.var 51))]), (.c (.int .i64 (.var 52)))]) [.dead] 41 [.int .i64, .int .i64, .int .i64, .slice 3, .int .i64, .int .i64, .int .i64, .int .i64, .int .i64, .int .i64, .bool, .int .i64]
       (.req (.room .nil (.var 26) 1)
       (.req (.room (.var 26) (.snoc .nil (.cons (.int .u8 (.lit 0)) .nil)) 1)
       (.call 65 [(.own 5 (.app (.var 26) (.snoc .nil (.cons (.int .u8 (.lit 0)) .nil))))] (.tuple [(.agg [(.int .i64 (.var 53)), (.int .i64 (.var 54)), (.int .i64 (.var 55)), (.slice false 3 (.var 56)), (.int .i64 (.var 57)), (.int .i64 (.var 58)), (.int .i64 (.var 59)), (.int .i64 (.var 60)), (.int .i64 (.var 61)), (.int .i64 (.var 62)), (.bool (.var 63))]), (.c (.int .i64 (.var 64)))]) [.dead] 53 [.int .i64, .int .i64, .int .i64, .slice 3, .int .i64, .int .i64, .int .i64, .int .i64, .int .i64, .int .i64, .bool, .int .i64]
       (.branch (.cmp .neq (.var 52) (.lit 14))
       (.ret (.c (.bool (.lit false))) [.dead, .dead, .dead, .dead, .dead, .dead, .dead, .dead])
       (.branch (.cmp .neq (.var 64) (.lit 14))
        (.ret (.c (.bool (.lit false))) [.dead, .dead, .dead, .dead, .dead, .dead, .dead, .dead])
        (.call 65 [(.c (.slice false 1 (.var 7)))] (.tuple [(.agg [(.int .i64 (.var 65)), (.int .i64 (.var 66)), (.int .i64 (.var 67)), (.slice false 3 (.var 68)), (.int .i64 (.var 69)), (.int .i64 (.var 70)), (.int .i64 (.var 71)), (.int .i64 (.var 72)), (.int .i64 (.var 73)), (.int .i64 (.var 74)), (.bool (.var 75))]), (.c (.int .i64 (.var 76)))]) [.dead] 65 [.int .i64, .int .i64, .int .i64, .slice 3, .int .i64, .int .i64, .int .i64, .int .i64, .int .i64, .int .i64, .bool, .int .i64]
         (.branch (.cmp .neq (.var 76) (.lit 0))
         (.call 42 [] (.c (.bool (.var 77))) [] 77 [.bool]
          (.ret (.c (.bool (.var 77))) [.dead, .dead, .dead, .dead, .dead, .dead, .dead, .dead]))
         (.call 63 [(.agg [(.int .i64 (.var 65)), (.int .i64 (.var 66)), (.int .i64 (.var 67)), (.slice false 3 (.var 68)), (.int .i64 (.var 69)), (.int .i64 (.var 70)), (.int .i64 (.var 71)), (.int .i64 (.var 72)), (.int .i64 (.var 73)), (.int .i64 (.var 74)), (.bool (.var 75))])] (.tuple [(.own 5 (.var 77)), (.c (.int .i64 (.var 78)))]) [.dead] 77 [.own 5, .int .i64]
          (.branch (.cmp .eql (.var 78) (.lit 0))
          (.req (.bytes (.var 77))
           (.req (.bytes (.var 7))
           (.branch (.seq (.bytes (.var 77)) (.bytes (.var 7)))
           (.call 42 [] (.c (.bool (.var 79))) [] 79 [.bool]
            (.ret (.c (.bool (.var 79))) [.dead, .dead, .dead, .dead, .dead, .dead, .dead, .dead]))
           (.ret (.c (.bool (.lit false))) [.dead, .dead, .dead, .dead, .dead, .dead, .dead, .dead]))))
          (.ret (.c (.bool (.lit false))) [.dead, .dead, .dead, .dead, .dead, .dead, .dead, .dead]))))))))))))))))))))))))
theorem eq19 : evFn Try.prog E19 Try.f19 (argsAt A19 0) 8 = T19 := by kernel_rfl
noncomputable def P19 : List (FuncId × Fun) := [(42, S42), (25, S25), (47, S47), (63, S63), (65, S65), (46, S46)]
noncomputable def S19 : Fun := ⟨A19, R19, fun vs => T19.run Try.prog P19 A19 R19 (fun _ _ => none) (envL vs)⟩
theorem ok19 : S19.Ok Try.prog 19 := fun_ok (Φ := P19) (S := S19) mixed plain_ok Try.func19 (by kernel_rfl) (by kernel_rfl) (by kernel_rfl) eq19 (And.intro ok42 (And.intro ok25 (And.intro ok47 (And.intro ok63 (And.intro ok65 (And.intro ok46 trivial)))))) (fun _ => by kernel_rfl)
noncomputable def g19 (x0 : Int) (x1 : Int) (x2 : Int) (x3 : List (List AV)) (x4 : Int) (x5 : Int) (x6 : Int) (x7 : List (List AV)) : Option (Bool) := S19.g [.i x0, .i x1, .i x2, .l x3, .i x4, .i x5, .i x6, .l x7]
theorem g19_eq (x0 : Int) (x1 : Int) (x2 : Int) (x3 : List (List AV)) (x4 : Int) (x5 : Int) (x6 : Int) (x7 : List (List AV)) : g19 x0 x1 x2 x3 x4 x5 x6 x7 =
    (if (cop .gtr (List.length x7 : Int) 400) = true then
      (g42).bind fun (r8 : Bool) =>
      some (r8)
    else
      if (cop .gtr (List.length x3 : Int) 40) = true then
        (g42).bind fun (r8 : Bool) =>
        some (r8)
      else
        (g25 x4 x5 x6 x0 x1).bind fun (r8 : Int × Int × Int × Int × Int × Int × Bool) =>
        (g47 x0 x1 x2 x3 r8.1 r8.2.1 r8.2.2.1 r8.2.2.2.1 r8.2.2.2.2.1 r8.2.2.2.2.2.1 r8.2.2.2.2.2.2).bind fun (r15 : Int × Int × Int × List (List AV) × Int × Int × Int × Int × Int × Int × Bool) =>
        (g63 r15.1 r15.2.1 r15.2.2.1 r15.2.2.2.1 r15.2.2.2.2.1 r15.2.2.2.2.2.1 r15.2.2.2.2.2.2.1 r15.2.2.2.2.2.2.2.1 r15.2.2.2.2.2.2.2.2.1 r15.2.2.2.2.2.2.2.2.2.1 r15.2.2.2.2.2.2.2.2.2.2).bind fun (r26 : List (List AV) × Int) =>
        (g65 r26.1).bind fun (r28 : Int × Int × Int × List (List AV) × Int × Int × Int × Int × Int × Int × Bool × Int) =>
        if (cop .neq r26.2 0) = true then
          some (false)
        else
          if (cop .neq r28.2.2.2.2.2.2.2.2.2.2.2 0) = true then
            some (false)
          else
            (g46 r15.1 r15.2.1 r15.2.2.1 r15.2.2.2.1 r15.2.2.2.2.1 r15.2.2.2.2.2.1 r15.2.2.2.2.2.2.1 r15.2.2.2.2.2.2.2.1 r15.2.2.2.2.2.2.2.2.1 r15.2.2.2.2.2.2.2.2.2.1 r15.2.2.2.2.2.2.2.2.2.2 r28.1 r28.2.1 r28.2.2.1 r28.2.2.2.1 r28.2.2.2.2.1 r28.2.2.2.2.2.1 r28.2.2.2.2.2.2.1 r28.2.2.2.2.2.2.2.1 r28.2.2.2.2.2.2.2.2.1 r28.2.2.2.2.2.2.2.2.2.1 r28.2.2.2.2.2.2.2.2.2.2.1).bind fun (r40 : Bool) =>
            if (!r40) = true then
              some (false)
            else
              if (cop .eql (List.length r26.1 : Int) 0) = true then
                some (false)
              else
                reqK ((0 : Int) ≤ (iop .sub .i64 (List.length r26.1 : Int) 1)) <|
                reqK (((iop .sub .i64 (List.length r26.1 : Int) 1) : Int) ≤ (List.length r26.1 : Int)) <|
                (g65 (List.take (Int.toNat (iop .sub .i64 (List.length r26.1 : Int) 1)) r26.1)).bind fun (r41 : Int × Int × Int × List (List AV) × Int × Int × Int × Int × Int × Int × Bool × Int) =>
                reqK (roomP ([] : List (List AV)) r26.1 1) <|
                reqK (roomP r26.1 (([] : List (List AV)) ++ [[AV.val (.int .u8 0)]]) 1) <|
                (g65 (r26.1 ++ (([] : List (List AV)) ++ [[AV.val (.int .u8 0)]]))).bind fun (r53 : Int × Int × Int × List (List AV) × Int × Int × Int × Int × Int × Int × Bool × Int) =>
                if (cop .neq r41.2.2.2.2.2.2.2.2.2.2.2 14) = true then
                  some (false)
                else
                  if (cop .neq r53.2.2.2.2.2.2.2.2.2.2.2 14) = true then
                    some (false)
                  else
                    (g65 x7).bind fun (r65 : Int × Int × Int × List (List AV) × Int × Int × Int × Int × Int × Int × Bool × Int) =>
                    if (cop .neq r65.2.2.2.2.2.2.2.2.2.2.2 0) = true then
                      (g42).bind fun (r77 : Bool) =>
                      some (r77)
                    else
                      (g63 r65.1 r65.2.1 r65.2.2.1 r65.2.2.2.1 r65.2.2.2.2.1 r65.2.2.2.2.2.1 r65.2.2.2.2.2.2.1 r65.2.2.2.2.2.2.2.1 r65.2.2.2.2.2.2.2.2.1 r65.2.2.2.2.2.2.2.2.2.1 r65.2.2.2.2.2.2.2.2.2.2.1).bind fun (r77 : List (List AV) × Int) =>
                      if (cop .eql r77.2 0) = true then
                        reqK (bytesP r77.1) <|
                        reqK (bytesP x7) <|
                        if (ByteArray.toList (bytesOf r77.1) == ByteArray.toList (bytesOf x7)) = true then
                          (g42).bind fun (r79 : Bool) =>
                          some (r79)
                        else
                          some (false)
                      else
                        some (false)) := by kernel_rfl

end Go.Proofs.Ytjfhdhplmibnfaa
