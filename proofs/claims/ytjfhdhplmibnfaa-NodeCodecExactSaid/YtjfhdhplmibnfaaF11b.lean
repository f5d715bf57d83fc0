/- Functions of the program, as what they compute. -/
import Derived.Test.YtjfhdhplmibnfaaF11a
namespace Go.Proofs.Ytjfhdhplmibnfaa
open Go Go.AM
set_option linter.unusedVariables false
set_option maxRecDepth 100000

/- multikernel/captype.Encode -/
def E38 : Env := envG 45 [2, 3] [(8, [(1, .box [.int .i64, .int .i64, .int .i64, .int .i64, .int .i64, .int .i64, .bool]), (5, .c (.own 5)), (31, .c (.int .i64))])] []
def A38 : List AP := [.agg [.int .i64, .int .i64, .int .i64, .int .i64, .int .i64, .int .i64, .bool]]
def R38 : List RSh := [.c (.own 5), .c (.int .i64)]
def T38L0 : STree := (.branch (.cmp .lss (.var 8) (.lit 5))
 (.req (.le (.lit 0) (.bin .mul .i64 (.lit 8) (.var 8)))
  (.req (.room (.var 7) (.snoc .nil (.cons (.int .u8 (.conv .u8 (.bin .shr .i64 (.var 1) (.bin .mul .i64 (.lit 8) (.var 8))))) .nil)) 1)
  (.again 0 [(.i (.var 0)), (.i (.var 1)), (.i (.var 2)), (.i (.var 3)), (.i (.var 4)), (.i (.var 5)), (.b (.var 6)), (.l (.app (.var 7) (.snoc .nil (.cons (.int .u8 (.conv .u8 (.bin .shr .i64 (.var 1) (.bin .mul .i64 (.lit 8) (.var 8))))) .nil)))), (.i (.bin .add .i64 (.var 8) (.lit 1)))])))
 (.ret (.tuple [(.own 5 (.var 7)), (.c (.int .i64 (.lit 0)))]) [.dead]))
def T38 : STree := (.call 28 [(.agg [(.int .i64 (.var 0)), (.int .i64 (.var 1)), (.int .i64 (.var 2)), (.int .i64 (.var 3)), (.int .i64 (.var 4)), (.int .i64 (.var 5)), (.bool (.var 6))])] (.c (.bool (.var 7))) [.dead] 7 [.bool]
 (.branch (.not (.var 7))
 (.ret (.tuple [(.own 5 .nil), (.c (.int .i64 (.lit 1)))]) [.dead])
 (.branch (.var 6)
  (.loop 0 [(.i (.var 0)), (.i (.var 1)), (.i (.var 2)), (.i (.var 3)), (.i (.var 4)), (.i (.var 5)), (.b (.var 6)), (.l (.snoc (.snoc (.snoc (.snoc (.snoc .nil (.cons (.int .u8 (.conv .u8 (.var 0))) .nil)) (.cons (.int .u8 (.conv .u8 (.var 2))) .nil)) (.cons (.int .u8 (.conv .u8 (.bin .add .i64 (.var 3) (.lit 8)))) .nil)) (.cons (.int .u8 (.conv .u8 (.var 4))) .nil)) (.cons (.int .u8 (.conv .u8 (.var 5))) .nil))), (.i (.lit 0))] 0 T38L0)
  (.loop 0 [(.i (.var 0)), (.i (.var 1)), (.i (.var 2)), (.i (.var 3)), (.i (.var 4)), (.i (.var 5)), (.b (.var 6)), (.l (.snoc (.snoc (.snoc (.snoc (.snoc .nil (.cons (.int .u8 (.conv .u8 (.var 0))) .nil)) (.cons (.int .u8 (.conv .u8 (.var 2))) .nil)) (.cons (.int .u8 (.conv .u8 (.var 3))) .nil)) (.cons (.int .u8 (.conv .u8 (.var 4))) .nil)) (.cons (.int .u8 (.conv .u8 (.var 5))) .nil))), (.i (.lit 0))] 0 T38L0))))
theorem eq38 : evFn Try.prog E38 Try.f38 (argsAt A38 0) 7 = T38 := by kernel_rfl
noncomputable def P38 : List (FuncId × Fun) := [(28, S28)]
noncomputable def S38 : Fun := ⟨A38, R38, fun vs => T38.run Try.prog P38 A38 R38 (fun _ _ => none) (envL vs)⟩
theorem ok38 : S38.Ok Try.prog 38 := fun_ok (Φ := P38) (S := S38) mixed plain_ok Try.func38 (by kernel_rfl) (by kernel_rfl) (by kernel_rfl) eq38 (And.intro ok28 trivial) (fun _ => by kernel_rfl)
noncomputable def g38 (x0 : Int) (x1 : Int) (x2 : Int) (x3 : Int) (x4 : Int) (x5 : Int) (x6 : Bool) : Option (List (List AV) × Int) := S38.g [.i x0, .i x1, .i x2, .i x3, .i x4, .i x5, .b x6]
noncomputable def g38L0 (k : Nat) (x0 : Int) (x1 : Int) (x2 : Int) (x3 : Int) (x4 : Int) (x5 : Int) (x6 : Bool) (x7 : List (List AV)) (x8 : Int) : Option (List (List AV) × Int) := iterL (fun rec vs => STree.run Try.prog P38 A38 R38 T38L0 (updR (fun _ _ => none) 0 rec) (bind zeroE 0 vs)) k [.i x0, .i x1, .i x2, .i x3, .i x4, .i x5, .b x6, .l x7, .i x8]
theorem g38L0_eq (k : Nat) (x0 : Int) (x1 : Int) (x2 : Int) (x3 : Int) (x4 : Int) (x5 : Int) (x6 : Bool) (x7 : List (List AV)) (x8 : Int) : g38L0 (k + 1) x0 x1 x2 x3 x4 x5 x6 x7 x8 =
    (if (cop .lss x8 5) = true then
      reqK ((0 : Int) ≤ (iop .mul .i64 8 x8)) <|
      reqK (roomP x7 (([] : List (List AV)) ++ [[AV.val (.int .u8 (IntKind.wrap .u8 (iop .shr .i64 x1 (iop .mul .i64 8 x8))))]]) 1) <|
      g38L0 k x0 x1 x2 x3 x4 x5 x6 (x7 ++ (([] : List (List AV)) ++ [[AV.val (.int .u8 (IntKind.wrap .u8 (iop .shr .i64 x1 (iop .mul .i64 8 x8))))]])) (iop .add .i64 x8 1)
    else
      some (x7, 0)) := by kernel_rfl
theorem g38_eq (x0 : Int) (x1 : Int) (x2 : Int) (x3 : Int) (x4 : Int) (x5 : Int) (x6 : Bool) : g38 x0 x1 x2 x3 x4 x5 x6 =
    ((g28 x0 x1 x2 x3 x4 x5 x6).bind fun (r7 : Bool) =>
    if (!r7) = true then
      some (([] : List (List AV)), 1)
    else
      if x6 = true then
        g38L0 FUEL x0 x1 x2 x3 x4 x5 x6 (((((([] : List (List AV)) ++ [[AV.val (.int .u8 (IntKind.wrap .u8 x0))]]) ++ [[AV.val (.int .u8 (IntKind.wrap .u8 x2))]]) ++ [[AV.val (.int .u8 (IntKind.wrap .u8 (iop .add .i64 x3 8)))]]) ++ [[AV.val (.int .u8 (IntKind.wrap .u8 x4))]]) ++ [[AV.val (.int .u8 (IntKind.wrap .u8 x5))]]) 0
      else
        g38L0 FUEL x0 x1 x2 x3 x4 x5 x6 (((((([] : List (List AV)) ++ [[AV.val (.int .u8 (IntKind.wrap .u8 x0))]]) ++ [[AV.val (.int .u8 (IntKind.wrap .u8 x2))]]) ++ [[AV.val (.int .u8 (IntKind.wrap .u8 x3))]]) ++ [[AV.val (.int .u8 (IntKind.wrap .u8 x4))]]) ++ [[AV.val (.int .u8 (IntKind.wrap .u8 x5))]]) 0) := by kernel_rfl

/- multikernel/multikernelref10.EncodeCap -/
def E39 : Env := envG 47 [2, 3] [(8, [(1, .box [.int .i64, .int .i64, .int .i64, .int .i64, .int .i64, .int .i64, .bool]), (5, .c (.own 5)), (6, .c (.int .i64))])] []
def A39 : List AP := [.agg [.int .i64, .int .i64, .int .i64, .int .i64, .int .i64, .int .i64, .bool]]
def R39 : List RSh := [.c (.own 5), .c (.int .i64)]
def T39L0 : STree := (.branch (.cmp .lss (.var 8) (.lit 5))
 (.req (.le (.lit 0) (.conv .u64 (.bin .mul .i64 (.lit 8) (.var 8))))
  (.req (.room (.var 7) (.snoc .nil (.cons (.int .u8 (.conv .u8 (.bin .and .i64 (.bin .shr .i64 (.var 1) (.conv .u64 (.bin .mul .i64 (.lit 8) (.var 8)))) (.lit 255)))) .nil)) 1)
  (.again 0 [(.i (.var 0)), (.i (.var 1)), (.i (.var 2)), (.i (.var 3)), (.i (.var 4)), (.i (.var 5)), (.b (.var 6)), (.l (.app (.var 7) (.snoc .nil (.cons (.int .u8 (.conv .u8 (.bin .and .i64 (.bin .shr .i64 (.var 1) (.conv .u64 (.bin .mul .i64 (.lit 8) (.var 8)))) (.lit 255)))) .nil)))), (.i (.bin .add .i64 (.var 8) (.lit 1)))])))
 (.ret (.tuple [(.own 5 (.var 7)), (.c (.int .i64 (.lit 0)))]) [.dead]))
def T39 : STree := (.call 33 [(.agg [(.int .i64 (.var 0)), (.int .i64 (.var 1)), (.int .i64 (.var 2)), (.int .i64 (.var 3)), (.int .i64 (.var 4)), (.int .i64 (.var 5)), (.bool (.var 6))])] (.c (.bool (.var 7))) [.dead] 7 [.bool]
 (.branch (.not (.var 7))
 (.ret (.tuple [(.own 5 .nil), (.c (.int .i64 (.lit 1)))]) [.dead])
 (.branch (.var 6)
  (.loop 0 [(.i (.var 0)), (.i (.var 1)), (.i (.var 2)), (.i (.var 3)), (.i (.var 4)), (.i (.var 5)), (.b (.var 6)), (.l (.snoc (.snoc (.snoc (.snoc (.snoc .nil (.cons (.int .u8 (.conv .u8 (.var 0))) .nil)) (.cons (.int .u8 (.conv .u8 (.var 2))) .nil)) (.cons (.int .u8 (.conv .u8 (.bin .add .i64 (.var 3) (.lit 8)))) .nil)) (.cons (.int .u8 (.conv .u8 (.var 4))) .nil)) (.cons (.int .u8 (.conv .u8 (.var 5))) .nil))), (.i (.lit 0))] 0 T39L0)
  (.loop 0 [(.i (.var 0)), (.i (.var 1)), (.i (.var 2)), (.i (.var 3)), (.i (.var 4)), (.i (.var 5)), (.b (.var 6)), (.l (.snoc (.snoc (.snoc (.snoc (.snoc .nil (.cons (.int .u8 (.conv .u8 (.var 0))) .nil)) (.cons (.int .u8 (.conv .u8 (.var 2))) .nil)) (.cons (.int .u8 (.conv .u8 (.var 3))) .nil)) (.cons (.int .u8 (.conv .u8 (.var 4))) .nil)) (.cons (.int .u8 (.conv .u8 (.var 5))) .nil))), (.i (.lit 0))] 0 T39L0))))
theorem eq39 : evFn Try.prog E39 Try.f39 (argsAt A39 0) 7 = T39 := by kernel_rfl
noncomputable def P39 : List (FuncId × Fun) := [(33, S33)]
noncomputable def S39 : Fun := ⟨A39, R39, fun vs => T39.run Try.prog P39 A39 R39 (fun _ _ => none) (envL vs)⟩
theorem ok39 : S39.Ok Try.prog 39 := fun_ok (Φ := P39) (S := S39) mixed plain_ok Try.func39 (by kernel_rfl) (by kernel_rfl) (by kernel_rfl) eq39 (And.intro ok33 trivial) (fun _ => by kernel_rfl)
noncomputable def g39 (x0 : Int) (x1 : Int) (x2 : Int) (x3 : Int) (x4 : Int) (x5 : Int) (x6 : Bool) : Option (List (List AV) × Int) := S39.g [.i x0, .i x1, .i x2, .i x3, .i x4, .i x5, .b x6]
noncomputable def g39L0 (k : Nat) (x0 : Int) (x1 : Int) (x2 : Int) (x3 : Int) (x4 : Int) (x5 : Int) (x6 : Bool) (x7 : List (List AV)) (x8 : Int) : Option (List (List AV) × Int) := iterL (fun rec vs => STree.run Try.prog P39 A39 R39 T39L0 (updR (fun _ _ => none) 0 rec) (bind zeroE 0 vs)) k [.i x0, .i x1, .i x2, .i x3, .i x4, .i x5, .b x6, .l x7, .i x8]
theorem g39L0_eq (k : Nat) (x0 : Int) (x1 : Int) (x2 : Int) (x3 : Int) (x4 : Int) (x5 : Int) (x6 : Bool) (x7 : List (List AV)) (x8 : Int) : g39L0 (k + 1) x0 x1 x2 x3 x4 x5 x6 x7 x8 =
    (if (cop .lss x8 5) = true then
      reqK ((0 : Int) ≤ (IntKind.wrap .u64 (iop .mul .i64 8 x8))) <|
      reqK (roomP x7 (([] : List (List AV)) ++ [[AV.val (.int .u8 (IntKind.wrap .u8 (iop .and .i64 (iop .shr .i64 x1 (IntKind.wrap .u64 (iop .mul .i64 8 x8))) 255)))]]) 1) <|
      g39L0 k x0 x1 x2 x3 x4 x5 x6 (x7 ++ (([] : List (List AV)) ++ [[AV.val (.int .u8 (IntKind.wrap .u8 (iop .and .i64 (iop .shr .i64 x1 (IntKind.wrap .u64 (iop .mul .i64 8 x8))) 255)))]])) (iop .add .i64 x8 1)
    else
      some (x7, 0)) := by kernel_rfl
theorem g39_eq (x0 : Int) (x1 : Int) (x2 : Int) (x3 : Int) (x4 : Int) (x5 : Int) (x6 : Bool) : g39 x0 x1 x2 x3 x4 x5 x6 =
    ((g33 x0 x1 x2 x3 x4 x5 x6).bind fun (r7 : Bool) =>
    if (!r7) = true then
      some (([] : List (List AV)), 1)
    else
      if x6 = true then
        g39L0 FUEL x0 x1 x2 x3 x4 x5 x6 (((((([] : List (List AV)) ++ [[AV.val (.int .u8 (IntKind.wrap .u8 x0))]]) ++ [[AV.val (.int .u8 (IntKind.wrap .u8 x2))]]) ++ [[AV.val (.int .u8 (IntKind.wrap .u8 (iop .add .i64 x3 8)))]]) ++ [[AV.val (.int .u8 (IntKind.wrap .u8 x4))]]) ++ [[AV.val (.int .u8 (IntKind.wrap .u8 x5))]]) 0
      else
        g39L0 FUEL x0 x1 x2 x3 x4 x5 x6 (((((([] : List (List AV)) ++ [[AV.val (.int .u8 (IntKind.wrap .u8 x0))]]) ++ [[AV.val (.int .u8 (IntKind.wrap .u8 x2))]]) ++ [[AV.val (.int .u8 (IntKind.wrap .u8 x3))]]) ++ [[AV.val (.int .u8 (IntKind.wrap .u8 x4))]]) ++ [[AV.val (.int .u8 (IntKind.wrap .u8 x5))]]) 0) := by kernel_rfl

/- multikernel/captype.Decode -/
def E40 : Env := envG 65 [2, 3] [(5, [(0, .c (.slice 1)), (2, .box [.int .i64, .int .i64, .int .i64, .int .i64, .int .i64, .int .i64, .bool]), (4, .box [.int .i64, .int .i64, .int .i64, .int .i64, .int .i64, .int .i64, .bool]), (43, .c (.int .i64))])] []
def A40 : List AP := [.c (.slice 1)]
def R40 : List RSh := [.agg [.int .i64, .int .i64, .int .i64, .int .i64, .int .i64, .int .i64, .bool], .c (.int .i64)]
def T40L0 : STree := (.branch (.cmp .lss (.var 15) (.lit 5))
 (.elem (.var 0) (.bin .add .i64 (.lit 5) (.var 15)) [.int .u8] 16
  (.req (.le (.lit 0) (.bin .mul .i64 (.lit 8) (.var 15)))
  (.again 0 [(.l (.var 0)), (.i (.var 1)), (.i (.var 2)), (.i (.var 3)), (.i (.var 4)), (.i (.var 5)), (.i (.var 6)), (.b (.var 7)), (.i (.var 8)), (.i (.bin .or .i64 (.var 9) (.bin .shl .i64 (.conv .i64 (.var 16)) (.bin .mul .i64 (.lit 8) (.var 15))))), (.i (.var 10)), (.i (.var 11)), (.i (.var 12)), (.i (.var 13)), (.b (.var 14)), (.i (.bin .add .i64 (.var 15) (.lit 1)))])))
 (.call 28 [(.agg [(.int .i64 (.var 8)), (.int .i64 (.var 9)), (.int .i64 (.var 10)), (.int .i64 (.var 11)), (.int .i64 (.var 12)), (.int .i64 (.var 13)), (.bool (.var 14))])] (.c (.bool (.var 16))) [.dead] 16 [.bool]
  (.branch (.not (.var 16))
  (.ret (.tuple [(.agg [(.int .i64 (.lit 0)), (.int .i64 (.lit 0)), (.int .i64 (.lit 0)), (.int .i64 (.lit 0)), (.int .i64 (.lit 0)), (.int .i64 (.lit 0)), (.bool (.lit false))]), (.c (.int .i64 (.lit 14)))]) [.dead])
  (.ret (.tuple [(.agg [(.int .i64 (.var 8)), (.int .i64 (.var 9)), (.int .i64 (.var 10)), (.int .i64 (.var 11)), (.int .i64 (.var 12)), (.int .i64 (.var 13)), (.bool (.var 14))]), (.c (.int .i64 (.lit 0)))]) [.dead]))))
def T40 : STree := (.branch (.cmp .neq (.len (.var 0)) (.lit 10))
 (.ret (.tuple [(.agg [(.int .i64 (.lit 0)), (.int .i64 (.lit 0)), (.int .i64 (.lit 0)), (.int .i64 (.lit 0)), (.int .i64 (.lit 0)), (.int .i64 (.lit 0)), (.bool (.lit false))]), (.c (.int .i64 (.lit 14)))]) [.dead])
 (.elem (.var 0) (.lit 2) [.int .u8] 1
  (.branch (.cmp .gtr (.var 1) (.lit 15))
  (.ret (.tuple [(.agg [(.int .i64 (.lit 0)), (.int .i64 (.lit 0)), (.int .i64 (.lit 0)), (.int .i64 (.lit 0)), (.int .i64 (.lit 0)), (.int .i64 (.lit 0)), (.bool (.lit false))]), (.c (.int .i64 (.lit 14)))]) [.dead])
  (.elem (.var 0) (.lit 0) [.int .u8] 2
   (.elem (.var 0) (.lit 1) [.int .u8] 3
   (.elem (.var 0) (.lit 2) [.int .u8] 4
   (.elem (.var 0) (.lit 3) [.int .u8] 5
   (.elem (.var 0) (.lit 4) [.int .u8] 6
   (.elem (.var 0) (.lit 2) [.int .u8] 7
   (.loop 0 [(.l (.var 0)), (.i (.lit 0)), (.i (.lit 0)), (.i (.lit 0)), (.i (.lit 0)), (.i (.lit 0)), (.i (.lit 0)), (.b (.lit false)), (.i (.conv .i64 (.var 2))), (.i (.lit 0)), (.i (.conv .i64 (.var 3))), (.i (.conv .i64 (.bin .and .u8 (.var 4) (.lit 7)))), (.i (.conv .i64 (.var 5))), (.i (.conv .i64 (.var 6))), (.b (.cmp .neq (.bin .and .u8 (.var 7) (.lit 8)) (.lit 0))), (.i (.lit 0))] 0 T40L0))))))))))
theorem eq40 : evFn Try.prog E40 Try.f40 (argsAt A40 0) 1 = T40 := by kernel_rfl
noncomputable def P40 : List (FuncId × Fun) := [(28, S28)]
noncomputable def S40 : Fun := ⟨A40, R40, fun vs => T40.run Try.prog P40 A40 R40 (fun _ _ => none) (envL vs)⟩
theorem ok40 : S40.Ok Try.prog 40 := fun_ok (Φ := P40) (S := S40) mixed plain_ok Try.func40 (by kernel_rfl) (by kernel_rfl) (by kernel_rfl) eq40 (And.intro ok28 trivial) (fun _ => by kernel_rfl)
noncomputable def g40 (x0 : List (List AV)) : Option (Int × Int × Int × Int × Int × Int × Bool × Int) := S40.g [.l x0]
noncomputable def g40L0 (k : Nat) (x0 : List (List AV)) (x1 : Int) (x2 : Int) (x3 : Int) (x4 : Int) (x5 : Int) (x6 : Int) (x7 : Bool) (x8 : Int) (x9 : Int) (x10 : Int) (x11 : Int) (x12 : Int) (x13 : Int) (x14 : Bool) (x15 : Int) : Option (Int × Int × Int × Int × Int × Int × Bool × Int) := iterL (fun rec vs => STree.run Try.prog P40 A40 R40 T40L0 (updR (fun _ _ => none) 0 rec) (bind zeroE 0 vs)) k [.l x0, .i x1, .i x2, .i x3, .i x4, .i x5, .i x6, .b x7, .i x8, .i x9, .i x10, .i x11, .i x12, .i x13, .b x14, .i x15]
theorem g40L0_eq (k : Nat) (x0 : List (List AV)) (x1 : Int) (x2 : Int) (x3 : Int) (x4 : Int) (x5 : Int) (x6 : Int) (x7 : Bool) (x8 : Int) (x9 : Int) (x10 : Int) (x11 : Int) (x12 : Int) (x13 : Int) (x14 : Bool) (x15 : Int) : g40L0 (k + 1) x0 x1 x2 x3 x4 x5 x6 x7 x8 x9 x10 x11 x12 x13 x14 x15 =
    (if (cop .lss x15 5) = true then
      elemK x0 (iop .add .i64 5 x15) [.int .u8] fun (r16 : Int) =>
      reqK ((0 : Int) ≤ (iop .mul .i64 8 x15)) <|
      g40L0 k x0 x1 x2 x3 x4 x5 x6 x7 x8 (iop .or .i64 x9 (iop .shl .i64 (IntKind.wrap .i64 r16) (iop .mul .i64 8 x15))) x10 x11 x12 x13 x14 (iop .add .i64 x15 1)
    else
      (g28 x8 x9 x10 x11 x12 x13 x14).bind fun (r16 : Bool) =>
      if (!r16) = true then
        some (0, 0, 0, 0, 0, 0, false, 14)
      else
        some (x8, x9, x10, x11, x12, x13, x14, 0)) := by kernel_rfl
theorem g40_eq (x0 : List (List AV)) : g40 x0 =
    (if (cop .neq (List.length x0 : Int) 10) = true then
      some (0, 0, 0, 0, 0, 0, false, 14)
    else
      elemK x0 2 [.int .u8] fun (r1 : Int) =>
      if (cop .gtr r1 15) = true then
        some (0, 0, 0, 0, 0, 0, false, 14)
      else
        elemK x0 0 [.int .u8] fun (r2 : Int) =>
        elemK x0 1 [.int .u8] fun (r3 : Int) =>
        elemK x0 2 [.int .u8] fun (r4 : Int) =>
        elemK x0 3 [.int .u8] fun (r5 : Int) =>
        elemK x0 4 [.int .u8] fun (r6 : Int) =>
        elemK x0 2 [.int .u8] fun (r7 : Int) =>
        g40L0 FUEL x0 0 0 0 0 0 0 false (IntKind.wrap .i64 r2) 0 (IntKind.wrap .i64 r3) (IntKind.wrap .i64 (iop .and .u8 r4 7)) (IntKind.wrap .i64 r5) (IntKind.wrap .i64 r6) (cop .neq (iop .and .u8 r7 8) 0) 0) := by kernel_rfl

/- multikernel/multikernelref10.DecodeCap -/
def E41 : Env := envG 67 [2, 3] [(5, [(0, .c (.slice 1)), (2, .box [.int .i64, .int .i64, .int .i64, .int .i64, .int .i64, .int .i64, .bool]), (4, .c (.int .i64)), (5, .c (.int .i64))])] []
def A41 : List AP := [.c (.slice 1)]
def R41 : List RSh := [.agg [.int .i64, .int .i64, .int .i64, .int .i64, .int .i64, .int .i64, .bool], .c (.int .i64)]
def T41L0 : STree := (.branch (.cmp .lss (.var 9) (.lit 5))
 (.elem (.var 0) (.bin .add .i64 (.lit 5) (.var 9)) [.int .u8] 10
  (.req (.le (.lit 0) (.conv .u64 (.bin .mul .i64 (.lit 8) (.var 9))))
  (.again 0 [(.l (.var 0)), (.i (.var 1)), (.i (.var 2)), (.i (.var 3)), (.i (.var 4)), (.i (.var 5)), (.i (.var 6)), (.b (.var 7)), (.i (.bin .add .i64 (.var 8) (.bin .shl .i64 (.conv .i64 (.var 10)) (.conv .u64 (.bin .mul .i64 (.lit 8) (.var 9)))))), (.i (.bin .add .i64 (.var 9) (.lit 1)))])))
 (.elem (.var 0) (.lit 0) [.int .u8] 10
  (.elem (.var 0) (.lit 1) [.int .u8] 11
  (.elem (.var 0) (.lit 2) [.int .u8] 12
  (.req (.ne0 (.lit 8))
  (.elem (.var 0) (.lit 3) [.int .u8] 13
  (.elem (.var 0) (.lit 4) [.int .u8] 14
  (.elem (.var 0) (.lit 2) [.int .u8] 15
  (.elem (.var 0) (.lit 2) [.int .u8] 16
  (.branch (.cmp .geq (.conv .i64 (.var 16)) (.lit 16))
  (.ret (.tuple [(.agg [(.int .i64 (.lit 0)), (.int .i64 (.lit 0)), (.int .i64 (.lit 0)), (.int .i64 (.lit 0)), (.int .i64 (.lit 0)), (.int .i64 (.lit 0)), (.bool (.lit false))]), (.c (.int .i64 (.lit 14)))]) [.dead])
  (.call 33 [(.agg [(.int .i64 (.conv .i64 (.var 10))), (.int .i64 (.var 8)), (.int .i64 (.conv .i64 (.var 11))), (.int .i64 (.bin .rem .i64 (.conv .i64 (.var 12)) (.lit 8))), (.int .i64 (.conv .i64 (.var 13))), (.int .i64 (.conv .i64 (.var 14))), (.bool (.cmp .geq (.conv .i64 (.var 15)) (.lit 8)))])] (.c (.bool (.var 17))) [.dead] 17 [.bool]
   (.branch (.not (.var 17))
   (.ret (.tuple [(.agg [(.int .i64 (.lit 0)), (.int .i64 (.lit 0)), (.int .i64 (.lit 0)), (.int .i64 (.lit 0)), (.int .i64 (.lit 0)), (.int .i64 (.lit 0)), (.bool (.lit false))]), (.c (.int .i64 (.lit 14)))]) [.dead])
   (.ret (.tuple [(.agg [(.int .i64 (.conv .i64 (.var 10))), (.int .i64 (.var 8)), (.int .i64 (.conv .i64 (.var 11))), (.int .i64 (.bin .rem .i64 (.conv .i64 (.var 12)) (.lit 8))), (.int .i64 (.conv .i64 (.var 13))), (.int .i64 (.conv .i64 (.var 14))), (.bool (.cmp .geq (.conv .i64 (.var 15)) (.lit 8)))]), (.c (.int .i64 (.lit 0)))]) [.dead])))))))))))))
def T41 : STree := (.branch (.cmp .neq (.len (.var 0)) (.lit 10))
 (.ret (.tuple [(.agg [(.int .i64 (.lit 0)), (.int .i64 (.lit 0)), (.int .i64 (.lit 0)), (.int .i64 (.lit 0)), (.int .i64 (.lit 0)), (.int .i64 (.lit 0)), (.bool (.lit false))]), (.c (.int .i64 (.lit 14)))]) [.dead])
 (.loop 0 [(.l (.var 0)), (.i (.lit 0)), (.i (.lit 0)), (.i (.lit 0)), (.i (.lit 0)), (.i (.lit 0)), (.i (.lit 0)), (.b (.lit false)), (.i (.lit 0)), (.i (.lit 0))] 0 T41L0))
theorem eq41 : evFn Try.prog E41 Try.f41 (argsAt A41 0) 1 = T41 := by kernel_rfl
noncomputable def P41 : List (FuncId × Fun) := [(33, S33)]
noncomputable def S41 : Fun := ⟨A41, R41, fun vs => T41.run Try.prog P41 A41 R41 (fun _ _ => none) (envL vs)⟩
theorem ok41 : S41.Ok Try.prog 41 := fun_ok (Φ := P41) (S := S41) mixed plain_ok Try.func41 (by kernel_rfl) (by kernel_rfl) (by kernel_rfl) eq41 (And.intro ok33 trivial) (fun _ => by kernel_rfl)
noncomputable def g41 (x0 : List (List AV)) : Option (Int × Int × Int × Int × Int × Int × Bool × Int) := S41.g [.l x0]
noncomputable def g41L0 (k : Nat) (x0 : List (List AV)) (x1 : Int) (x2 : Int) (x3 : Int) (x4 : Int) (x5 : Int) (x6 : Int) (x7 : Bool) (x8 : Int) (x9 : Int) : Option (Int × Int × Int × Int × Int × Int × Bool × Int) := iterL (fun rec vs => STree.run Try.prog P41 A41 R41 T41L0 (updR (fun _ _ => none) 0 rec) (bind zeroE 0 vs)) k [.l x0, .i x1, .i x2, .i x3, .i x4, .i x5, .i x6, .b x7, .i x8, .i x9]
theorem g41L0_eq (k : Nat) (x0 : List (List AV)) (x1 : Int) (x2 : Int) (x3 : Int) (x4 : Int) (x5 : Int) (x6 : Int) (x7 : Bool) (x8 : Int) (x9 : Int) : g41L0 (k + 1) x0 x1 x2 x3 x4 x5 x6 x7 x8 x9 =
    (if (cop .lss x9 5) = true then
      elemK x0 (iop .add .i64 5 x9) [.int .u8] fun (r10 : Int) =>
      reqK ((0 : Int) ≤ (IntKind.wrap .u64 (iop .mul .i64 8 x9))) <|
      g41L0 k x0 x1 x2 x3 x4 x5 x6 x7 (iop .add .i64 x8 (iop .shl .i64 (IntKind.wrap .i64 r10) (IntKind.wrap .u64 (iop .mul .i64 8 x9)))) (iop .add .i64 x9 1)
    else
      elemK x0 0 [.int .u8] fun (r10 : Int) =>
      elemK x0 1 [.int .u8] fun (r11 : Int) =>
      elemK x0 2 [.int .u8] fun (r12 : Int) =>
      reqK ((8 : Int) ≠ 0) <|
      elemK x0 3 [.int .u8] fun (r13 : Int) =>
      elemK x0 4 [.int .u8] fun (r14 : Int) =>
      elemK x0 2 [.int .u8] fun (r15 : Int) =>
      elemK x0 2 [.int .u8] fun (r16 : Int) =>
      if (cop .geq (IntKind.wrap .i64 r16) 16) = true then
        some (0, 0, 0, 0, 0, 0, false, 14)
      else
        (g33 (IntKind.wrap .i64 r10) x8 (IntKind.wrap .i64 r11) (iop .rem .i64 (IntKind.wrap .i64 r12) 8) (IntKind.wrap .i64 r13) (IntKind.wrap .i64 r14) (cop .geq (IntKind.wrap .i64 r15) 8)).bind fun (r17 : Bool) =>
        if (!r17) = true then
          some (0, 0, 0, 0, 0, 0, false, 14)
        else
          some ((IntKind.wrap .i64 r10), x8, (IntKind.wrap .i64 r11), (iop .rem .i64 (IntKind.wrap .i64 r12) 8), (IntKind.wrap .i64 r13), (IntKind.wrap .i64 r14), (cop .geq (IntKind.wrap .i64 r15) 8), 0)) := by kernel_rfl
theorem g41_eq (x0 : List (List AV)) : g41 x0 =
    (if (cop .neq (List.length x0 : Int) 10) = true then
      some (0, 0, 0, 0, 0, 0, false, 14)
    else
      g41L0 FUEL x0 0 0 0 0 0 0 false 0 0) := by kernel_rfl

/- multikernel/multikernellaw11.CapCodecExact -/
def E10 : Env := envG 61 [4] [] []
def A10 : List AP := [.agg [.int .i64, .int .i64, .int .i64, .int .i64, .int .i64, .int .i64, .bool], .c (.slice 1)]
def R10 : List RSh := [.c (.bool)]
def T10 : STree := (.branch (.cmp .gtr (.len (.var 7)) (.lit 100))
 (.call 23 [] (.c (.bool (.var 8))) [] 8 [.bool]
  (.ret (.c (.bool (.var 8))) [.dead, .dead]))
 (.call 38 [(.agg [(.int .i64 (.var 0)), (.int .i64 (.var 1)), (.int .i64 (.var 2)), (.int .i64 (.var 3)), (.int .i64 (.var 4)), (.int .i64 (.var 5)), (.bool (.var 6))])] (.tuple [(.own 5 (.var 8)), (.c (.int .i64 (.var 9)))]) [.dead] 8 [.own 5, .int .i64]
  (.call 39 [(.agg [(.int .i64 (.var 0)), (.int .i64 (.var 1)), (.int .i64 (.var 2)), (.int .i64 (.var 3)), (.int .i64 (.var 4)), (.int .i64 (.var 5)), (.bool (.var 6))])] (.tuple [(.own 5 (.var 10)), (.c (.int .i64 (.var 11)))]) [.dead] 10 [.own 5, .int .i64]
  (.req (.room .nil (.var 7) 1)
  (.call 40 [(.own 5 (.var 7))] (.tuple [(.agg [(.int .i64 (.var 12)), (.int .i64 (.var 13)), (.int .i64 (.var 14)), (.int .i64 (.var 15)), (.int .i64 (.var 16)), (.int .i64 (.var 17)), (.bool (.var 18))]), (.c (.int .i64 (.var 19)))]) [.dead] 12 [.int .i64, .int .i64, .int .i64, .int .i64, .int .i64, .int .i64, .bool, .int .i64]
  (.call 41 [(.c (.slice false 1 (.var 7)))] (.tuple [(.agg [(.int .i64 (.var 20)), (.int .i64 (.var 21)), (.int .i64 (.var 22)), (.int .i64 (.var 23)), (.int .i64 (.var 24)), (.int .i64 (.var 25)), (.bool (.var 26))]), (.c (.int .i64 (.var 27)))]) [.dead] 20 [.int .i64, .int .i64, .int .i64, .int .i64, .int .i64, .int .i64, .bool, .int .i64]
  (.req (.bytes (.var 8))
  (.req (.bytes (.var 10))
  (.branch (.seq (.bytes (.var 8)) (.bytes (.var 10)))
  (.branch (.cmp .eql (.var 9) (.var 11))
   (.branch (.and (.cmp .eql (.var 12) (.var 20)) (.and (.cmp .eql (.var 13) (.var 21)) (.and (.cmp .eql (.var 14) (.var 22)) (.and (.cmp .eql (.var 15) (.var 23)) (.and (.cmp .eql (.var 16) (.var 24)) (.and (.cmp .eql (.var 17) (.var 25)) (.and (.beq (.var 18) (.var 26)) (.lit true))))))))
    (.branch (.cmp .eql (.var 19) (.var 27))
     (.call 23 [] (.c (.bool (.var 28))) [] 28 [.bool]
      (.ret (.c (.bool (.var 28))) [.dead, .dead]))
     (.ret (.c (.bool (.lit false))) [.dead, .dead]))
    (.ret (.c (.bool (.lit false))) [.dead, .dead]))
   (.ret (.c (.bool (.lit false))) [.dead, .dead]))
  (.ret (.c (.bool (.lit false))) [.dead, .dead]))))))))))
theorem eq10 : evFn Try.prog E10 Try.f10 (argsAt A10 0) 8 = T10 := by kernel_rfl
noncomputable def P10 : List (FuncId × Fun) := [(23, S23), (38, S38), (39, S39), (40, S40), (41, S41)]
noncomputable def S10 : Fun := ⟨A10, R10, fun vs => T10.run Try.prog P10 A10 R10 (fun _ _ => none) (envL vs)⟩
theorem ok10 : S10.Ok Try.prog 10 := fun_ok (Φ := P10) (S := S10) mixed plain_ok Try.func10 (by kernel_rfl) (by kernel_rfl) (by kernel_rfl) eq10 (And.intro ok23 (And.intro ok38 (And.intro ok39 (And.intro ok40 (And.intro ok41 trivial))))) (fun _ => by kernel_rfl)
noncomputable def g10 (x0 : Int) (x1 : Int) (x2 : Int) (x3 : Int) (x4 : Int) (x5 : Int) (x6 : Bool) (x7 : List (List AV)) : Option (Bool) := S10.g [.i x0, .i x1, .i x2, .i x3, .i x4, .i x5, .b x6, .l x7]
theorem g10_eq (x0 : Int) (x1 : Int) (x2 : Int) (x3 : Int) (x4 : Int) (x5 : Int) (x6 : Bool) (x7 : List (List AV)) : g10 x0 x1 x2 x3 x4 x5 x6 x7 =
    (if (cop .gtr (List.length x7 : Int) 100) = true then
      (g23).bind fun (r8 : Bool) =>
      some (r8)
    else
      (g38 x0 x1 x2 x3 x4 x5 x6).bind fun (r8 : List (List AV) × Int) =>
      (g39 x0 x1 x2 x3 x4 x5 x6).bind fun (r10 : List (List AV) × Int) =>
      reqK (roomP ([] : List (List AV)) x7 1) <|
      (g40 x7).bind fun (r12 : Int × Int × Int × Int × Int × Int × Bool × Int) =>
      (g41 x7).bind fun (r20 : Int × Int × Int × Int × Int × Int × Bool × Int) =>
      reqK (bytesP r8.1) <|
      reqK (bytesP r10.1) <|
      if (ByteArray.toList (bytesOf r8.1) == ByteArray.toList (bytesOf r10.1)) = true then
        if (cop .eql r8.2 r10.2) = true then
          if ((cop .eql r12.1 r20.1) && ((cop .eql r12.2.1 r20.2.1) && ((cop .eql r12.2.2.1 r20.2.2.1) && ((cop .eql r12.2.2.2.1 r20.2.2.2.1) && ((cop .eql r12.2.2.2.2.1 r20.2.2.2.2.1) && ((cop .eql r12.2.2.2.2.2.1 r20.2.2.2.2.2.1) && ((r12.2.2.2.2.2.2.1 == r20.2.2.2.2.2.2.1) && true))))))) = true then
            if (cop .eql r12.2.2.2.2.2.2.2 r20.2.2.2.2.2.2.2) = true then
              (g23).bind fun (r28 : Bool) =>
              some (r28)
            else
              some (false)
          else
            some (false)
        else
          some (false)
      else
        some (false)) := by kernel_rfl

/- multikernel/multikernellaw11.CapRoundTrip -/
def E11 : Env := envG 92 [12] [] []
def A11 : List AP := [.c (.int .i64), .c (.int .i64), .c (.int .i64), .c (.int .i64), .c (.int .i64), .c (.slice 1)]
def R11 : List RSh := [.c (.bool)]
def T11 : STree := (.branch (.cmp .gtr (.len (.var 5)) (.lit 100))
 (.call 23 [] (.c (.bool (.var 6))) [] 6 [.bool]
  (.ret (.c (.bool (.var 6))) [.dead, .dead, .dead, .dead, .dead, .dead]))
 (.call 25 [(.c (.int .i64 (.var 0))), (.c (.int .i64 (.var 1))), (.c (.int .i64 (.var 2))), (.c (.int .i64 (.var 3))), (.c (.int .i64 (.var 4)))] (.agg [(.int .i64 (.var 6)), (.int .i64 (.var 7)), (.int .i64 (.var 8)), (.int .i64 (.var 9)), (.int .i64 (.var 10)), (.int .i64 (.var 11)), (.bool (.var 12))]) [.dead, .dead, .dead, .dead, .dead] 6 [.int .i64, .int .i64, .int .i64, .int .i64, .int .i64, .int .i64, .bool]
  (.call 38 [(.agg [(.int .i64 (.var 6)), (.int .i64 (.var 7)), (.int .i64 (.var 8)), (.int .i64 (.var 9)), (.int .i64 (.var 10)), (.int .i64 (.var 11)), (.bool (.var 12))])] (.tuple [(.own 5 (.var 13)), (.c (.int .i64 (.var 14)))]) [.dead] 13 [.own 5, .int .i64]
  (.call 40 [(.c (.slice false 1 (.var 13)))] (.tuple [(.agg [(.int .i64 (.var 15)), (.int .i64 (.var 16)), (.int .i64 (.var 17)), (.int .i64 (.var 18)), (.int .i64 (.var 19)), (.int .i64 (.var 20)), (.bool (.var 21))]), (.c (.int .i64 (.var 22)))]) [.dead] 15 [.int .i64, .int .i64, .int .i64, .int .i64, .int .i64, .int .i64, .bool, .int .i64]
  (.branch (.cmp .neq (.var 14) (.lit 0))
  (.ret (.c (.bool (.lit false))) [.dead, .dead, .dead, .dead, .dead, .dead])
  (.branch (.cmp .neq (.var 22) (.lit 0))
   (.ret (.c (.bool (.lit false))) [.dead, .dead, .dead, .dead, .dead, .dead])
   (.branch (.not (.and (.cmp .eql (.var 15) (.var 6)) (.and (.cmp .eql (.var 16) (.var 7)) (.and (.cmp .eql (.var 17) (.var 8)) (.and (.cmp .eql (.var 18) (.var 9)) (.and (.cmp .eql (.var 19) (.var 10)) (.and (.cmp .eql (.var 20) (.var 11)) (.and (.beq (.var 21) (.var 12)) (.lit true)))))))))
    (.ret (.c (.bool (.lit false))) [.dead, .dead, .dead, .dead, .dead, .dead])
    (.branch (.cmp .neq (.len (.var 13)) (.lit 10))
     (.ret (.c (.bool (.lit false))) [.dead, .dead, .dead, .dead, .dead, .dead])
     (.call 40 [(.c (.slice false 1 (.var 5)))] (.tuple [(.agg [(.int .i64 (.var 23)), (.int .i64 (.var 24)), (.int .i64 (.var 25)), (.int .i64 (.var 26)), (.int .i64 (.var 27)), (.int .i64 (.var 28)), (.bool (.var 29))]), (.c (.int .i64 (.var 30)))]) [.dead] 23 [.int .i64, .int .i64, .int .i64, .int .i64, .int .i64, .int .i64, .bool, .int .i64]
      (.branch (.cmp .neq (.var 30) (.lit 0))
      (.branch (.and (.cmp .eql (.var 23) (.lit 0)) (.and (.cmp .eql (.var 24) (.lit 0)) (.and (.cmp .eql (.var 25) (.lit 0)) (.and (.cmp .eql (.var 26) (.lit 0)) (.and (.cmp .eql (.var 27) (.lit 0)) (.and (.cmp .eql (.var 28) (.lit 0)) (.and (.beq (.var 29) (.lit false)) (.lit true))))))))
       (.call 23 [] (.c (.bool (.var 31))) [] 31 [.bool]
        (.ret (.c (.bool (.var 31))) [.dead, .dead, .dead, .dead, .dead, .dead]))
       (.ret (.c (.bool (.lit false))) [.dead, .dead, .dead, .dead, .dead, .dead]))
      (.call 38 [(.agg [(.int .i64 (.var 23)), (.int .i64 (.var 24)), (.int .i64 (.var 25)), (.int .i64 (.var 26)), (.int .i64 (.var 27)), (.int .i64 (.var 28)), (.bool (.var 29))])] (.tuple [(.own 5 (.var 31)), (.c (.int .i64 (.var 32)))]) [.dead] 31 [.own 5, .int .i64]
       (.branch (.cmp .eql (.var 32) (.lit 0))
       (.req (.bytes (.var 31))
        (.req (.bytes (.var 5))
        (.branch (.seq (.bytes (.var 31)) (.bytes (.var 5)))
        (.call 28 [(.agg [(.int .i64 (.var 23)), (.int .i64 (.var 24)), (.int .i64 (.var 25)), (.int .i64 (.var 26)), (.int .i64 (.var 27)), (.int .i64 (.var 28)), (.bool (.var 29))])] (.c (.bool (.var 33))) [.dead] 33 [.bool]
         (.branch (.var 33)
         (.call 23 [] (.c (.bool (.var 34))) [] 34 [.bool]
          (.ret (.c (.bool (.var 34))) [.dead, .dead, .dead, .dead, .dead, .dead]))
         (.ret (.c (.bool (.lit false))) [.dead, .dead, .dead, .dead, .dead, .dead])))
        (.ret (.c (.bool (.lit false))) [.dead, .dead, .dead, .dead, .dead, .dead]))))
       (.ret (.c (.bool (.lit false))) [.dead, .dead, .dead, .dead, .dead, .dead])))))))))))))
theorem eq11 : evFn Try.prog E11 Try.f11 (argsAt A11 0) 6 = T11 := by kernel_rfl
noncomputable def P11 : List (FuncId × Fun) := [(23, S23), (25, S25), (38, S38), (40, S40), (28, S28)]
noncomputable def S11 : Fun := ⟨A11, R11, fun vs => T11.run Try.prog P11 A11 R11 (fun _ _ => none) (envL vs)⟩
theorem ok11 : S11.Ok Try.prog 11 := fun_ok (Φ := P11) (S := S11) mixed plain_ok Try.func11 (by kernel_rfl) (by kernel_rfl) (by kernel_rfl) eq11 (And.intro ok23 (And.intro ok25 (And.intro ok38 (And.intro ok40 (And.intro ok28 trivial))))) (fun _ => by kernel_rfl)
noncomputable def g11 (x0 : Int) (x1 : Int) (x2 : Int) (x3 : Int) (x4 : Int) (x5 : List (List AV)) : Option (Bool) := S11.g [.i x0, .i x1, .i x2, .i x3, .i x4, .l x5]
theorem g11_eq (x0 : Int) (x1 : Int) (x2 : Int) (x3 : Int) (x4 : Int) (x5 : List (List AV)) : g11 x0 x1 x2 x3 x4 x5 =
    (if (cop .gtr (List.length x5 : Int) 100) = true then
      (g23).bind fun (r6 : Bool) =>
      some (r6)
    else
      (g25 x0 x1 x2 x3 x4).bind fun (r6 : Int × Int × Int × Int × Int × Int × Bool) =>
      (g38 r6.1 r6.2.1 r6.2.2.1 r6.2.2.2.1 r6.2.2.2.2.1 r6.2.2.2.2.2.1 r6.2.2.2.2.2.2).bind fun (r13 : List (List AV) × Int) =>
      (g40 r13.1).bind fun (r15 : Int × Int × Int × Int × Int × Int × Bool × Int) =>
      if (cop .neq r13.2 0) = true then
        some (false)
      else
        if (cop .neq r15.2.2.2.2.2.2.2 0) = true then
          some (false)
        else
          if (!((cop .eql r15.1 r6.1) && ((cop .eql r15.2.1 r6.2.1) && ((cop .eql r15.2.2.1 r6.2.2.1) && ((cop .eql r15.2.2.2.1 r6.2.2.2.1) && ((cop .eql r15.2.2.2.2.1 r6.2.2.2.2.1) && ((cop .eql r15.2.2.2.2.2.1 r6.2.2.2.2.2.1) && ((r15.2.2.2.2.2.2.1 == r6.2.2.2.2.2.2) && true)))))))) = true then
            some (false)
          else
            if (cop .neq (List.length r13.1 : Int) 10) = true then
              some (false)
            else
              (g40 x5).bind fun (r23 : Int × Int × Int × Int × Int × Int × Bool × Int) =>
              if (cop .neq r23.2.2.2.2.2.2.2 0) = true then
                if ((cop .eql r23.1 0) && ((cop .eql r23.2.1 0) && ((cop .eql r23.2.2.1 0) && ((cop .eql r23.2.2.2.1 0) && ((cop .eql r23.2.2.2.2.1 0) && ((cop .eql r23.2.2.2.2.2.1 0) && ((r23.2.2.2.2.2.2.1 == false) && true))))))) = true then
                  (g23).bind fun (r31 : Bool) =>
                  some (r31)
                else
                  some (false)
              else
                (g38 r23.1 r23.2.1 r23.2.2.1 r23.2.2.2.1 r23.2.2.2.2.1 r23.2.2.2.2.2.1 r23.2.2.2.2.2.2.1).bind fun (r31 : List (List AV) × Int) =>
                if (cop .eql r31.2 0) = true then
                  reqK (bytesP r31.1) <|
                  reqK (bytesP x5) <|
                  if (ByteArray.toList (bytesOf r31.1) == ByteArray.toList (bytesOf x5)) = true then
                    (g28 r23.1 r23.2.1 r23.2.2.1 r23.2.2.2.1 r23.2.2.2.2.1 r23.2.2.2.2.2.1 r23.2.2.2.2.2.2.1).bind fun (r33 : Bool) =>
                    if r33 = true then
                      (g23).bind fun (r34 : Bool) =>
                      some (r34)
                    else
                      some (false)
                  else
                    some (false)
                else
                  some (false)) := by kernel_rfl

end Go.Proofs.Ytjfhdhplmibnfaa
