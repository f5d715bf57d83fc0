/- La, Lb, Lc, Ld, Le, Lf, Lg, Lh, Li, Lj, EndL, Lp1, Lp2, Lp3, Lp4, Lp5, Lp6, Lk, Ll, Lp7: texts of the proof, put together. -/
import Derived.Test.YtigknndkmlhmfaaGL
import Derived.Test.YtigknndkmlhmfaaRows
import Derived.Test.YtigknndkmlhmfaaChecked
import Derived.Test.YtigknndkmlhmfaaM5
import Derived.JoinedOf
import Derived.JoinedAt
import Derived.RowKit3
import Derived.KernelRfl

section
namespace Go.Proofs.Ytigknndkmlhmfaa
open Go Go.AM
set_option linter.unusedVariables false
set_option maxRecDepth 100000
noncomputable def F65:Fn:=⟨8,[2],[],[],0,[2,5,7],[],Try.f65,[.c (.slice 4)],[.c (.own true 80)],[]⟩
theorem ZoJ:F65.S.Ok Try.prog 65:=F65.ok Try.func65 (by kernel_rfl) trivial
noncomputable def g65 (x0:LL):Option (LL):=F65.S.g [.l x0]
theorem ZmO (x0:LL):g65 x0 =
 (Zg0 x0 fun r1=>
 if r1=true then
 some (E0)
 else
 ZF (YL E0 x0 64)<|
 some ((E0++x0))):=by kernel_rfl
noncomputable def F75:Fn:=⟨8,[2],[],[],0,[2,5,7],[],Try.f75,[.c (.slice 4)],[.c (.own true 41)],[]⟩
theorem ZoP:F75.S.Ok Try.prog 75:=F75.ok Try.func75 (by kernel_rfl) trivial
noncomputable def g75 (x0:LL):Option (LL):=F75.S.g [.l x0]
theorem Znp (x0:LL):g75 x0 =
 (Zg0 x0 fun r1=>
 if r1=true then
 some (E0)
 else
 ZF (YL E0 x0 48)<|
 some ((E0++x0))):=by kernel_rfl
noncomputable def F43:Fn:=⟨8,[2],[],[],0,[],[],Try.f43,[.c (.slice 1)],[.c (.own false 44)],[]⟩
theorem ZnM:F43.S.Ok Try.prog 43:=F43.ok Try.func43 (by kernel_rfl) trivial
noncomputable def g43 (x0:LL):Option (LL):=F43.S.g [.l x0]
theorem ZmD (x0:LL):g43 x0 =
 (Zg0 x0 fun r1=>
 if r1=true then
 some (E0)
 else
 ZF (YL E0 x0 8)<|
 some ((E0++x0))):=by kernel_rfl
noncomputable def F66:Fn:=⟨24,[2],[(3,[(3,.c (.own true 41)),(8,.c (.int .i64)),(9,.c (.int .i64))])],[],0,[2],[],Try.f66,[.c (.slice 4)],[.c (.own true 41)],[(75,F75.S),(43,F43.S)]⟩
theorem ZoF:F66.S.Ok Try.prog 66:=F66.ok Try.func66 (by kernel_rfl) ⟨ZoP,⟨ZnM,trivial⟩⟩
noncomputable def g66 (x0:LL):Option (LL):=F66.S.g [.l x0]
noncomputable def ZjB (k:Nat) (x0:LL) (x1:Int) (x2:Int):Option (LL):=F66.lp [2] 0 r0 k [.l x0,.i x1,.i x2]
theorem ZkG (k:Nat) (x0:LL) (x1:Int) (x2:Int):ZjB (k+1) x0 x1 x2 =
 (if (cop .lss x2 x1)=true then
 ZF ((0:Int)≤x2)<|
 ZF ((x2:Int) < (List.length x0:Int))<|
 Jk x0 x2 [.int .i64,.int .i64,.slice 1,.int .i64] fun (r3:Int×Int×LL×Int)=>
 (g43 r3.2.2.1).bind fun (r7:LL)=>
 ZF ((0:Int)≤x2)<|
 ZF ((x2:Int) < (List.length x0:Int))<|
 ZF ((0:Int)≤x2)<|
 ZF ((x2:Int) < (List.length x0:Int))<|
 ZjB k (ZD x0 (Int.toNat x2) 2 [AV.slice false 1 r7]) x1 (iop .add .i64 x2 1)
 else
 some (x0)):=by kernel_rfl
theorem Znk (x0:LL):g66 x0 =
 ((g75 x0).bind fun (r1:LL)=>
 ZjB VP r1 (List.length r1:Int) 0):=by kernel_rfl
noncomputable def F40:Fn:=⟨35,[2],[(3,[(1,.box [.int .i64,.own true 2097232]),(2,.box [.int .i64,.slice 4]),(10,.mref 1 2),(11,.c (.int .i64)),(12,.c (.int .i64))])],[],0,[],[(2,[(1,1002)])],Try.f40,[.agg [.int .i64,.slice 4]],[.aggo [.int .i64,.own true 2097232]],[(65,F65.S),(66,F66.S)]⟩
theorem ZnD:F40.S.Ok Try.prog 40:=F40.ok Try.func40 (by kernel_rfl) ⟨ZoJ,⟨ZoF,trivial⟩⟩
noncomputable def g40 (x0:Int) (x1:LL):Option (Int×LL):=F40.S.g [.i x0,.l x1]
noncomputable def ZjG (k:Nat) (x0:Int) (x1:LL) (x2:Int) (x3:LL) (x4:Int) (x5:Int):Option (Int×LL):=F40.lp [2] 0 r0 k [.i x0,.l x1,.i x2,.l x3,.i x4,.i x5]
theorem Zkk (k:Nat) (x0:Int) (x1:LL) (x2:Int) (x3:LL) (x4:Int) (x5:Int):ZjG (k+1) x0 x1 x2 x3 x4 x5 =
 (if (cop .lss x5 x4)=true then
 ZF ((0:Int)≤x5)<|
 ZF ((x5:Int) < (List.length x1:Int))<|
 Jk (Zjw (KK x1 (Int.toNat x5) 0 4) 0 4) x5 [.int .i64,.int .i64,.slice 4,.slice 4] fun (r6:Int×Int×LL×LL)=>
 (g66 r6.2.2.1).bind fun (r10:LL)=>
 ZF ((0:Int)≤x5)<|
 ZF ((x5:Int) < (List.length (KK x1 (Int.toNat x5) 0 4):Int))<|
 ZF ((0:Int)≤x5)<|
 ZF ((x5:Int) < (List.length (KK x1 (Int.toNat x5) 0 4):Int))<|
 (g66 r6.2.2.2).bind fun (r11:LL)=>
 ZF ((0:Int)≤x5)<|
 ZF ((x5:Int) < (List.length (JZ (KK x1 (Int.toNat x5) 0 4) (Int.toNat x5) 2 (AV.nest 4 true 41 r10)):Int))<|
 ZF ((0:Int)≤x5)<|
 ZF ((x5:Int) < (List.length (JZ (KK x1 (Int.toNat x5) 0 4) (Int.toNat x5) 2 (AV.nest 4 true 41 r10)):Int))<|
 ZjG k x0 (JZ (JZ (KK x1 (Int.toNat x5) 0 4) (Int.toNat x5) 2 (AV.nest 4 true 41 r10)) (Int.toNat x5) 3 (AV.nest 4 true 41 r11)) x2 x3 x4 (iop .add .i64 x5 1)
 else
 some (x0,x1)):=by kernel_rfl
theorem ZmG (x0:Int) (x1:LL):g40 x0 x1 =
 ((g65 x1).bind fun (r2:LL)=>
 ZjG VP x0 (ZhS r2) 0 E0 (List.length (ZhS r2):Int) 0):=by kernel_rfl
end Go.Proofs.Ytigknndkmlhmfaa
end

section
namespace Go.Proofs.Ytigknndkmlhmfaa
open Go Go.AM
set_option linter.unusedVariables false
set_option maxRecDepth 100000
def Zg6:Go.Shelf.Ren:=⟨fun | 4=>70 | n=>n,fun | 25=>41 | 0=>0 | 3=>3 | 4=>4 | 9=>9 | 20=>20 | 22=>62 | n=>n,fun | n=>n⟩
theorem ZmB:Go.Proofs.Lays8.n4 Try.prog Zg6:={
 mixed:=by kernel_rfl
 f4:=⟨Try.f70.name,by decide,Try.func70.trans (congrArg some (by kernel_rfl))⟩
 t0:=Try.underlying0
 a0:=Try.isAgg0
 z0:=Try.sizeOf0
 v0:=Try.zeroValue0
 t3:=Try.underlying3
 a3:=Try.isAgg3
 z3:=Try.sizeOf3
 v3:=Try.zeroValue3
 t4:=Try.underlying4
 a4:=Try.isAgg4
 z4:=Try.sizeOf4
 v4:=Try.zeroValue4
 t9:=Try.underlying9
 a9:=Try.isAgg9
 z9:=Try.sizeOf9
 v9:=Try.zeroValue9
 t20:=Try.underlying20
 a20:=Try.isAgg20
 z20:=Try.sizeOf20
 v20:=Try.zeroValue20
 t22:=Try.underlying62
 a22:=Try.isAgg62
 z22:=Try.sizeOf62
 v22:=Try.zeroValue62 }
noncomputable def F70.S:Fun:=Zm1 41 48
theorem Zow:F70.S.Ok Try.prog 70:=Zkt ZmB (by kernel_rfl) rfl rfl ⟨Try.f70,Try.func70,by kernel_rfl,by kernel_rfl⟩
noncomputable def g70 (x0:LL) (x1:Int):Option LL:=F70.S.g [.l x0,.i x1]
theorem Zng (x0:LL) (x1:Int):g70 x0 x1=ZlR 48 x0 x1:=rfl
noncomputable def F44:Fn:=⟨36,[2],[(3,[(0,.c (.slice 1)),(3,.c (.int .i64)),(9,.c (.slice 1)),(10,.c (.int .i64)),(11,.c (.int .i64))]),(11,[(6,.c (.own true 41)),(25,.c (.slice 1)),(26,.c (.int .i64)),(27,.c (.int .i64))])],[],0,[2,33],[],Try.f44,[.c (.slice 1)],[.c (.own true 41)],[(70,F70.S)]⟩
theorem Zou:F44.S.Ok Try.prog 44:=F44.ok Try.func44 (by kernel_rfl) ⟨Zow,trivial⟩
noncomputable def g44 (x0:LL):Option (LL):=F44.S.g [.l x0]
noncomputable def ZlH (k:Nat) (x0:LL) (x1:LL) (x2:Int) (x3:Int):Option (LL):=F44.lp [0,1,2] 0 r0 k [.l x0,.l x1,.i x2,.i x3]
theorem ZdC (k:Nat) (x0:LL) (x1:LL) (x2:Int) (x3:Int):ZlH (k+1) x0 x1 x2 x3 =
 (if (cop .lss x3 x2)=true then
 Jk x1 x3 [.slice 4] fun (r4:LL)=>
 ZF (YL x0 r4 48)<|
 ZlH k (x0++r4) x1 x2 (iop .add .i64 x3 1)
 else
 some (x0)):=by kernel_rfl
noncomputable def ZlY (k:Nat) (x0:LL) (x1:Int) (x2:LL) (x3:Int) (x4:Int):Option (LL):=F44.lp [0] 0 r0 k [.l x0,.i x1,.l x2,.i x3,.i x4]
theorem ZdD (k:Nat) (x0:LL) (x1:Int) (x2:LL) (x3:Int) (x4:Int):ZlY (k+1) x0 x1 x2 x3 x4 =
 (if (cop .lss x4 x3)=true then
 Jk x2 x4 [.slice 4] fun (r5:LL)=>
 if (cop .lss (iop .add .i64 x1 (List.length r5:Int)) 0)=true then
 none
 else
 ZlY k x0 (iop .add .i64 x1 (List.length r5:Int)) x2 x3 (iop .add .i64 x4 1)
 else
 (g70 E0 x1).bind fun (r5:LL)=>
 ZlH VP r5 x0 (List.length x0:Int) 0):=by kernel_rfl
theorem Zni (x0:LL):g44 x0 =
 (ZlY VP x0 0 x0 (List.length x0:Int) 0):=by kernel_rfl
noncomputable def F37:Fn:=⟨9,[2],[],[],0,[],[],Try.f37,[.c (.int .i64)],[.c (.bool)],[]⟩
theorem Zoo:F37.S.Ok Try.prog 37:=F37.ok Try.func37 (by kernel_rfl) trivial
noncomputable def g37 (x0:Int):Option (Bool):=F37.S.g [.i x0]
theorem Zm6 (x0:Int):g37 x0 =
 (if (cop .geq x0 0)=true then
 some ((cop .leq x0 1099511627775))
 else
 some (false)):=by kernel_rfl
noncomputable def F38:Fn:=⟨9,[2],[],[],0,[],[],Try.f38,[.c (.int .i64)],[.c (.bool)],[]⟩
theorem Zn3:F38.S.Ok Try.prog 38:=F38.ok Try.func38 (by kernel_rfl) trivial
noncomputable def g38 (x0:Int):Option (Bool):=F38.S.g [.i x0]
theorem ZmP (x0:Int):g38 x0 =
 (if (cop .geq x0 0)=true then
 some ((cop .lss x0 32))
 else
 some (false)):=by kernel_rfl
noncomputable def F69:Fn:=⟨27,[2],[],[],0,[],[],Try.f69,[.agg [.int .i64,.int .i64,.slice 1,.int .i64]],[.c (.bool)],[(38,F38.S)]⟩
theorem Zov:F69.S.Ok Try.prog 69:=F69.ok Try.func69 (by kernel_rfl) ⟨Zn3,trivial⟩
noncomputable def g69 (x0:Int) (x1:Int) (x2:LL) (x3:Int):Option (Bool):=F69.S.g [.i x0,.i x1,.l x2,.i x3]
theorem ZmM (x0:Int) (x1:Int) (x2:LL) (x3:Int):g69 x0 x1 x2 x3 =
 (if (cop .geq x0 0)=true then
 (g38 x1).bind fun (r4:Bool)=>
 if r4=true then
 if (cop .leq (List.length x2:Int) 8)=true then
 if (cop .geq x3 (-1))=true then
 some ((cop .lss x3 64))
 else
 some (false)
 else
 some (false)
 else
 some (false)
 else
 some (false)):=by kernel_rfl
noncomputable def F52:Fn:=⟨38,[2],[(4,[(1,.box [.int .i64,.int .i64,.slice 4,.slice 4]),(12,.c (.slice 4)),(13,.c (.int .i64)),(14,.c (.int .i64))]),(10,[(23,.c (.slice 4)),(24,.c (.int .i64)),(25,.c (.int .i64))])],[],0,[],[],Try.f52,[.agg [.int .i64,.int .i64,.slice 4,.slice 4]],[.c (.bool)],[(69,F69.S)]⟩
theorem ZoE:F52.S.Ok Try.prog 52:=F52.ok Try.func52 (by kernel_rfl) ⟨Zov,trivial⟩
noncomputable def g52 (x0:Int) (x1:Int) (x2:LL) (x3:LL):Option (Bool):=F52.S.g [.i x0,.i x1,.l x2,.l x3]
noncomputable def ZhZ (k:Nat) (x0:LL) (x1:Int) (x2:Int):Option (Bool):=F52.lp [1,0,1,0] 0 r0 k [.l x0,.i x1,.i x2]
theorem Zkz (k:Nat) (x0:LL) (x1:Int) (x2:Int):ZhZ (k+1) x0 x1 x2 =
 (if (cop .lss x2 x1)=true then
 Jk x0 x2 [.int .i64,.int .i64,.slice 1,.int .i64] fun (r3:Int×Int×LL×Int)=>
 (g69 r3.1 r3.2.1 r3.2.2.1 r3.2.2.2).bind fun (r7:Bool)=>
 if (!r7)=true then
 some (false)
 else
 if (cop .eql r3.1 0)=true then
 some (false)
 else
 ZhZ k x0 x1 (iop .add .i64 x2 1)
 else
 some (true)):=by kernel_rfl
noncomputable def Zkv (k:Nat) (x0:Int) (x1:Int) (x2:LL) (x3:LL) (x4:LL) (x5:Int) (x6:Int):Option (Bool):=F52.lp [1,0] 0 r0 k [.i x0,.i x1,.l x2,.l x3,.l x4,.i x5,.i x6]
theorem ZjH (k:Nat) (x0:Int) (x1:Int) (x2:LL) (x3:LL) (x4:LL) (x5:Int) (x6:Int):Zkv (k+1) x0 x1 x2 x3 x4 x5 x6 =
 (if (cop .lss x6 x5)=true then
 Jk x4 x6 [.int .i64,.int .i64,.slice 1,.int .i64] fun (r7:Int×Int×LL×Int)=>
 (g69 r7.1 r7.2.1 r7.2.2.1 r7.2.2.2).bind fun (r11:Bool)=>
 if (!r11)=true then
 some (false)
 else
 Zkv k x0 x1 x2 x3 x4 x5 (iop .add .i64 x6 1)
 else
 ZhZ VP x3 (List.length x3:Int) 0):=by kernel_rfl
theorem ZmK (x0:Int) (x1:Int) (x2:LL) (x3:LL):g52 x0 x1 x2 x3 =
 (if (cop .gtr (List.length x2:Int) 8)=true then
 some (false)
 else
 Zkv VP x0 x1 x2 x3 x2 (List.length x2:Int) 0):=by kernel_rfl
noncomputable def F22:Fn:=⟨92,[2],[(5,[(1,.box [.int .i64,.slice 4]),(3,.c (.own true 1048668)),(24,.c (.slice 4)),(25,.c (.int .i64)),(26,.c (.int .i64))]),(10,[(1,.box [.int .i64,.slice 4]),(3,.c (.own true 1048668)),(24,.c (.slice 4)),(25,.c (.int .i64)),(26,.c (.int .i64)),(67,.c (.own true 41)),(68,.c (.int .i64)),(69,.c (.int .i64))])],[],0,[],[],Try.f22,[.agg [.int .i64,.slice 4]],[.c (.bool)],[(37,F37.S),(38,F38.S),(52,F52.S),(44,F44.S)]⟩
theorem Zmu:F22.S.Ok Try.prog 22:=F22.ok Try.func22 (by kernel_rfl) ⟨Zoo,⟨Zn3,⟨ZoE,⟨Zou,trivial⟩⟩⟩⟩
noncomputable def g22 (x0:Int) (x1:LL):Option (Bool):=F22.S.g [.i x0,.l x1]
noncomputable def ZeQ (rec0:List V→Option (Bool)) (k:Nat) (x0:Int) (x1:LL) (x2:LL) (x3:LL) (x4:Int) (x5:Int) (x6:LL) (x7:Int) (x8:Int):Option (Bool):=F22.lp [1,1,1,2,2,1,0,1,0,1,0,0,1,2] 1 (ZlV r0 0 rec0) k [.i x0,.l x1,.l x2,.l x3,.i x4,.i x5,.l x6,.i x7,.i x8]
theorem ZkC (rec0:List V→Option (Bool)) (k:Nat) (x0:Int) (x1:LL) (x2:LL) (x3:LL) (x4:Int) (x5:Int) (x6:LL) (x7:Int) (x8:Int):ZeQ rec0 (k+1) x0 x1 x2 x3 x4 x5 x6 x7 x8 =
 (if (cop .lss x8 x7)=true then
 ZF ((0:Int)≤x8)<|
 ZF ((x8:Int) < (List.length x6:Int))<|
 Jk x6 x8 [.int .i64,.int .i64,.slice 1,.int .i64] fun (r9:Int×Int×LL×Int)=>
 if (cop .eql r9.1 0)=true then
 ZeQ rec0 k x0 x1 x2 x3 x4 x5 x6 x7 (iop .add .i64 x8 1)
 else
 ZF (qop .mapv x2 0=true)<|
 Jk (ZbL x2 r9.1 [AV.val (.bool false)]) 0 [.bool,.bool] fun (r13:Bool×Bool)=>
 if r13.1=true then
 some (false)
 else
 if (cop .gtr r9.1 x0)=true then
 some (false)
 else
 ZF (qop .mapv x2 0=true)<|
 ZeQ rec0 k x0 x1 (ZhP x2 r9.1 [AV.val (.bool true)]) x3 x4 x5 x6 x7 (iop .add .i64 x8 1)
 else
 rec0 [.i x0,.l x1,.l x2,.l x3,.i x4,.i (iop .add .i64 x5 1)]):=by kernel_rfl
noncomputable def Zl2 (k:Nat) (x0:Int) (x1:LL) (x2:LL) (x3:LL) (x4:Int) (x5:Int):Option (Bool):=F22.lp [1,1,1,0] 0 r0 k [.i x0,.l x1,.l x2,.l x3,.i x4,.i x5]
theorem ZkP (k:Nat) (x0:Int) (x1:LL) (x2:LL) (x3:LL) (x4:Int) (x5:Int):Zl2 (k+1) x0 x1 x2 x3 x4 x5 =
 (if (cop .lss x5 x4)=true then
 Jk x3 x5 [.int .i64,.int .i64,.slice 4,.slice 4] fun (r6:Int×Int×LL×LL)=>
 (g37 r6.1).bind fun (r10:Bool)=>
 if (!r10)=true then
 some (false)
 else
 (g38 r6.2.1).bind fun (r11:Bool)=>
 if (!r11)=true then
 some (false)
 else
 (g52 r6.1 r6.2.1 r6.2.2.1 r6.2.2.2).bind fun (r12:Bool)=>
 if (!r12)=true then
 some (false)
 else
 if (cop .gtr x5 0)=true then
 Jk x1 (iop .sub .i64 x5 1) [.int .i64,.int .i64,.slice 4,.slice 4] fun (r13:Int×Int×LL×LL)=>
 if (cop .geq r13.1 r6.1)=true then
 some (false)
 else
 (g44 ((E0++[[AV.slice false 4 r6.2.2.1]])++[[AV.slice false 4 r6.2.2.2]])).bind fun (r17:LL)=>
 ZeQ (F22.lp [1,1,1,0] 0 r0 k) VP x0 x1 x2 x3 x4 x5 r17 (List.length r17:Int) 0
 else
 (g44 ((E0++[[AV.slice false 4 r6.2.2.1]])++[[AV.slice false 4 r6.2.2.2]])).bind fun (r13:LL)=>
 ZeQ (F22.lp [1,1,1,0] 0 r0 k) VP x0 x1 x2 x3 x4 x5 r13 (List.length r13:Int) 0
 else
 some (true)):=by kernel_rfl
theorem Znv (x0:Int) (x1:LL):g22 x0 x1 =
 (if (cop .lss x0 0)=true then
 some (false)
 else
 if (cop .gtr x0 1099511627776)=true then
 some (false)
 else
 if (cop .gtr (List.length x1:Int) 32)=true then
 some (false)
 else
 Zl2 VP x0 x1 (E0++[[AV.slice false 2 E0]]) x1 (List.length x1:Int) 0):=by kernel_rfl
end Go.Proofs.Ytigknndkmlhmfaa
end

section
namespace Go.Proofs.Ytigknndkmlhmfaa
open Go Go.AM
set_option linter.unusedVariables false
set_option maxRecDepth 100000
noncomputable def F39:Fn:=⟨21,[2],[(3,[(3,.c (.own true 1048653)),(8,.c (.slice 4)),(9,.c (.int .i64)),(10,.c (.int .i64))])],[],0,[],[],Try.f39,[.agg [.int .i64,.slice 4]],[.c (.own true 1048653)],[]⟩
theorem Zn2:F39.S.Ok Try.prog 39:=F39.ok Try.func39 (by kernel_rfl) trivial
noncomputable def g39 (x0:Int) (x1:LL):Option (LL):=F39.S.g [.i x0,.l x1]
noncomputable def Zki (k:Nat) (x0:LL) (x1:LL) (x2:Int) (x3:Int):Option (LL):=F39.lp [0] 0 r0 k [.l x0,.l x1,.i x2,.i x3]
theorem ZjL (k:Nat) (x0:LL) (x1:LL) (x2:Int) (x3:Int):Zki (k+1) x0 x1 x2 x3 =
 (if (cop .lss x3 x2)=true then
 Jk x1 x3 [.int .i64,.int .i64,.slice 4,.slice 4] fun (r4:Int×Int×LL×LL)=>
 ZF (qop .mapv x0 0=true)<|
 Zki k (ZhP x0 r4.1 [AV.val (.int .i64 x3)]) x1 x2 (iop .add .i64 x3 1)
 else
 some (x0)):=by kernel_rfl
theorem Znb (x0:Int) (x1:LL):g39 x0 x1 =
 (Zki VP (E0++[[AV.slice false 2 E0]]) x1 (List.length x1:Int) 0):=by kernel_rfl
noncomputable def F42:Fn:=⟨93,[8,9],[],[],0,[],[(20,[(12,2),(12,2)])],Try.f42,[.agg [.int .i64,.slice 4],.c (.int .i64),.agg [.int .i64,.int .i64,.slice 1,.int .i64],.c (.bool)],[.agg [.int .i64,.slice 4],.c (.int .i64)],[(22,F22.S),(69,F69.S),(39,F39.S),(40,F40.S),(43,F43.S)]⟩
theorem Zom:F42.S.Ok Try.prog 42:=F42.ok Try.func42 (by kernel_rfl) ⟨Zmu,⟨Zov,⟨Zn2,⟨ZnD,⟨ZnM,trivial⟩⟩⟩⟩⟩
noncomputable def g42 (x0:Int) (x1:LL) (x2:Int) (x3:Int) (x4:Int) (x5:LL) (x6:Int) (x7:Bool):Option (Int×LL×Int):=F42.S.g [.i x0,.l x1,.i x2,.i x3,.i x4,.l x5,.i x6,.b x7]
theorem ZiX (x0:Int) (x1:LL) (x2:Int) (x3:Int) (x4:Int) (x5:LL) (x6:Int) (x7:Bool):g42 x0 x1 x2 x3 x4 x5 x6 x7 =
 ((g22 x0 x1).bind fun (r8:Bool)=>
 if (!r8)=true then
 some (0,E0,74)
 else
 (g69 x3 x4 x5 x6).bind fun (r9:Bool)=>
 if (!r9)=true then
 some (0,E0,1)
 else
 (g39 x0 x1).bind fun (r10:LL)=>
 ZF (qop .mapv r10 0=true)<|
 Jk (ZbL r10 x2 [AV.val (.int .i64 0)]) 0 [.int .i64,.bool] fun (r11:Int×Bool)=>
 if (!r11.2)=true then
 some (0,E0,17)
 else
 Jk x1 r11.1 [.int .i64,.int .i64,.slice 4,.slice 4] fun (r13:Int×Int×LL×LL)=>
 if (cop .eql (List.length r13.2.2.1:Int) 8)=true then
 some (0,E0,65)
 else
 if x7=true then
 Jk x1 r11.1 [.int .i64,.int .i64,.slice 4,.slice 4] fun (r17:Int×Int×LL×LL)=>
 if (cop .eql r17.2.1 x4)=true then
 some (0,E0,4)
 else
 if x7=true then
 if (cop .eql x0 1099511627776)=true then
 some (0,E0,15)
 else
 (g40 x0 x1).bind fun (r21:Int×LL)=>
 if x7=true then
 (g43 x5).bind fun (r23:LL)=>
 ZF ((0:Int)≤r11.1)<|
 ZF ((r11.1:Int) < (List.length r21.2:Int))<|
 ZF ((0:Int)≤r11.1)<|
 ZF (qop (.nst 2 4 41) r21.2 r11.1=true)<|
 ZF (YL (VK r21.2 (Int.toNat r11.1) 2) (E0++[[AV.val (.int .i64 (iop .add .i64 r21.1 1)),AV.val (.int .i64 x4),AV.slice false 1 r23,AV.val (.int .i64 x6)]]) 48)<|
 ZF ((0:Int)≤r11.1)<|
 ZF ((r11.1:Int) < (List.length (JZ r21.2 (Int.toNat r11.1) 2 (AV.nest 4 false 41 E0)):Int))<|
 ZF ((0:Int)≤r11.1)<|
 ZF ((r11.1:Int) < (List.length (JZ r21.2 (Int.toNat r11.1) 2 (AV.nest 4 false 41 E0)):Int))<|
 some ((iop .add .i64 r21.1 1),(WZ (JZ (JZ r21.2 (Int.toNat r11.1) 2 (AV.nest 4 false 41 E0)) (Int.toNat r11.1) 2 (AV.nest 4 true 41 ((VK r21.2 (Int.toNat r11.1) 2)++(E0++[[AV.val (.int .i64 (iop .add .i64 r21.1 1)),AV.val (.int .i64 x4),AV.slice false 1 r23,AV.val (.int .i64 x6)]]))))),0)
 else
 (g43 x5).bind fun (r23:LL)=>
 ZF ((0:Int)≤r11.1)<|
 ZF ((r11.1:Int) < (List.length r21.2:Int))<|
 ZF ((0:Int)≤r11.1)<|
 ZF (qop (.nst 2 4 41) r21.2 r11.1=true)<|
 ZF (YL (VK r21.2 (Int.toNat r11.1) 2) (E0++[[AV.val (.int .i64 x3),AV.val (.int .i64 x4),AV.slice false 1 r23,AV.val (.int .i64 x6)]]) 48)<|
 ZF ((0:Int)≤r11.1)<|
 ZF ((r11.1:Int) < (List.length (JZ r21.2 (Int.toNat r11.1) 2 (AV.nest 4 false 41 E0)):Int))<|
 ZF ((0:Int)≤r11.1)<|
 ZF ((r11.1:Int) < (List.length (JZ r21.2 (Int.toNat r11.1) 2 (AV.nest 4 false 41 E0)):Int))<|
 some (r21.1,(WZ (JZ (JZ r21.2 (Int.toNat r11.1) 2 (AV.nest 4 false 41 E0)) (Int.toNat r11.1) 2 (AV.nest 4 true 41 ((VK r21.2 (Int.toNat r11.1) 2)++(E0++[[AV.val (.int .i64 x3),AV.val (.int .i64 x4),AV.slice false 1 r23,AV.val (.int .i64 x6)]]))))),0)
 else
 (g40 x0 x1).bind fun (r21:Int×LL)=>
 if x7=true then
 (g43 x5).bind fun (r23:LL)=>
 ZF ((0:Int)≤r11.1)<|
 ZF ((r11.1:Int) < (List.length r21.2:Int))<|
 ZF ((0:Int)≤r11.1)<|
 ZF (qop (.nst 2 4 41) r21.2 r11.1=true)<|
 ZF (YL (VK r21.2 (Int.toNat r11.1) 2) (E0++[[AV.val (.int .i64 (iop .add .i64 r21.1 1)),AV.val (.int .i64 x4),AV.slice false 1 r23,AV.val (.int .i64 x6)]]) 48)<|
 ZF ((0:Int)≤r11.1)<|
 ZF ((r11.1:Int) < (List.length (JZ r21.2 (Int.toNat r11.1) 2 (AV.nest 4 false 41 E0)):Int))<|
 ZF ((0:Int)≤r11.1)<|
 ZF ((r11.1:Int) < (List.length (JZ r21.2 (Int.toNat r11.1) 2 (AV.nest 4 false 41 E0)):Int))<|
 some ((iop .add .i64 r21.1 1),(WZ (JZ (JZ r21.2 (Int.toNat r11.1) 2 (AV.nest 4 false 41 E0)) (Int.toNat r11.1) 2 (AV.nest 4 true 41 ((VK r21.2 (Int.toNat r11.1) 2)++(E0++[[AV.val (.int .i64 (iop .add .i64 r21.1 1)),AV.val (.int .i64 x4),AV.slice false 1 r23,AV.val (.int .i64 x6)]]))))),0)
 else
 (g43 x5).bind fun (r23:LL)=>
 ZF ((0:Int)≤r11.1)<|
 ZF ((r11.1:Int) < (List.length r21.2:Int))<|
 ZF ((0:Int)≤r11.1)<|
 ZF (qop (.nst 2 4 41) r21.2 r11.1=true)<|
 ZF (YL (VK r21.2 (Int.toNat r11.1) 2) (E0++[[AV.val (.int .i64 x3),AV.val (.int .i64 x4),AV.slice false 1 r23,AV.val (.int .i64 x6)]]) 48)<|
 ZF ((0:Int)≤r11.1)<|
 ZF ((r11.1:Int) < (List.length (JZ r21.2 (Int.toNat r11.1) 2 (AV.nest 4 false 41 E0)):Int))<|
 ZF ((0:Int)≤r11.1)<|
 ZF ((r11.1:Int) < (List.length (JZ r21.2 (Int.toNat r11.1) 2 (AV.nest 4 false 41 E0)):Int))<|
 some (r21.1,(WZ (JZ (JZ r21.2 (Int.toNat r11.1) 2 (AV.nest 4 false 41 E0)) (Int.toNat r11.1) 2 (AV.nest 4 true 41 ((VK r21.2 (Int.toNat r11.1) 2)++(E0++[[AV.val (.int .i64 x3),AV.val (.int .i64 x4),AV.slice false 1 r23,AV.val (.int .i64 x6)]]))))),0)
 else
 if x7=true then
 if (cop .eql x0 1099511627776)=true then
 some (0,E0,15)
 else
 (g40 x0 x1).bind fun (r17:Int×LL)=>
 if x7=true then
 (g43 x5).bind fun (r19:LL)=>
 ZF ((0:Int)≤r11.1)<|
 ZF ((r11.1:Int) < (List.length r17.2:Int))<|
 ZF ((0:Int)≤r11.1)<|
 ZF (qop (.nst 2 4 41) r17.2 r11.1=true)<|
 ZF (YL (VK r17.2 (Int.toNat r11.1) 2) (E0++[[AV.val (.int .i64 (iop .add .i64 r17.1 1)),AV.val (.int .i64 x4),AV.slice false 1 r19,AV.val (.int .i64 x6)]]) 48)<|
 ZF ((0:Int)≤r11.1)<|
 ZF ((r11.1:Int) < (List.length (JZ r17.2 (Int.toNat r11.1) 2 (AV.nest 4 false 41 E0)):Int))<|
 ZF ((0:Int)≤r11.1)<|
 ZF ((r11.1:Int) < (List.length (JZ r17.2 (Int.toNat r11.1) 2 (AV.nest 4 false 41 E0)):Int))<|
 some ((iop .add .i64 r17.1 1),(WZ (JZ (JZ r17.2 (Int.toNat r11.1) 2 (AV.nest 4 false 41 E0)) (Int.toNat r11.1) 2 (AV.nest 4 true 41 ((VK r17.2 (Int.toNat r11.1) 2)++(E0++[[AV.val (.int .i64 (iop .add .i64 r17.1 1)),AV.val (.int .i64 x4),AV.slice false 1 r19,AV.val (.int .i64 x6)]]))))),0)
 else
 (g43 x5).bind fun (r19:LL)=>
 ZF ((0:Int)≤r11.1)<|
 ZF ((r11.1:Int) < (List.length r17.2:Int))<|
 ZF ((0:Int)≤r11.1)<|
 ZF (qop (.nst 2 4 41) r17.2 r11.1=true)<|
 ZF (YL (VK r17.2 (Int.toNat r11.1) 2) (E0++[[AV.val (.int .i64 x3),AV.val (.int .i64 x4),AV.slice false 1 r19,AV.val (.int .i64 x6)]]) 48)<|
 ZF ((0:Int)≤r11.1)<|
 ZF ((r11.1:Int) < (List.length (JZ r17.2 (Int.toNat r11.1) 2 (AV.nest 4 false 41 E0)):Int))<|
 ZF ((0:Int)≤r11.1)<|
 ZF ((r11.1:Int) < (List.length (JZ r17.2 (Int.toNat r11.1) 2 (AV.nest 4 false 41 E0)):Int))<|
 some (r17.1,(WZ (JZ (JZ r17.2 (Int.toNat r11.1) 2 (AV.nest 4 false 41 E0)) (Int.toNat r11.1) 2 (AV.nest 4 true 41 ((VK r17.2 (Int.toNat r11.1) 2)++(E0++[[AV.val (.int .i64 x3),AV.val (.int .i64 x4),AV.slice false 1 r19,AV.val (.int .i64 x6)]]))))),0)
 else
 (g40 x0 x1).bind fun (r17:Int×LL)=>
 if x7=true then
 (g43 x5).bind fun (r19:LL)=>
 ZF ((0:Int)≤r11.1)<|
 ZF ((r11.1:Int) < (List.length r17.2:Int))<|
 ZF ((0:Int)≤r11.1)<|
 ZF (qop (.nst 2 4 41) r17.2 r11.1=true)<|
 ZF (YL (VK r17.2 (Int.toNat r11.1) 2) (E0++[[AV.val (.int .i64 (iop .add .i64 r17.1 1)),AV.val (.int .i64 x4),AV.slice false 1 r19,AV.val (.int .i64 x6)]]) 48)<|
 ZF ((0:Int)≤r11.1)<|
 ZF ((r11.1:Int) < (List.length (JZ r17.2 (Int.toNat r11.1) 2 (AV.nest 4 false 41 E0)):Int))<|
 ZF ((0:Int)≤r11.1)<|
 ZF ((r11.1:Int) < (List.length (JZ r17.2 (Int.toNat r11.1) 2 (AV.nest 4 false 41 E0)):Int))<|
 some ((iop .add .i64 r17.1 1),(WZ (JZ (JZ r17.2 (Int.toNat r11.1) 2 (AV.nest 4 false 41 E0)) (Int.toNat r11.1) 2 (AV.nest 4 true 41 ((VK r17.2 (Int.toNat r11.1) 2)++(E0++[[AV.val (.int .i64 (iop .add .i64 r17.1 1)),AV.val (.int .i64 x4),AV.slice false 1 r19,AV.val (.int .i64 x6)]]))))),0)
 else
 (g43 x5).bind fun (r19:LL)=>
 ZF ((0:Int)≤r11.1)<|
 ZF ((r11.1:Int) < (List.length r17.2:Int))<|
 ZF ((0:Int)≤r11.1)<|
 ZF (qop (.nst 2 4 41) r17.2 r11.1=true)<|
 ZF (YL (VK r17.2 (Int.toNat r11.1) 2) (E0++[[AV.val (.int .i64 x3),AV.val (.int .i64 x4),AV.slice false 1 r19,AV.val (.int .i64 x6)]]) 48)<|
 ZF ((0:Int)≤r11.1)<|
 ZF ((r11.1:Int) < (List.length (JZ r17.2 (Int.toNat r11.1) 2 (AV.nest 4 false 41 E0)):Int))<|
 ZF ((0:Int)≤r11.1)<|
 ZF ((r11.1:Int) < (List.length (JZ r17.2 (Int.toNat r11.1) 2 (AV.nest 4 false 41 E0)):Int))<|
 some (r17.1,(WZ (JZ (JZ r17.2 (Int.toNat r11.1) 2 (AV.nest 4 false 41 E0)) (Int.toNat r11.1) 2 (AV.nest 4 true 41 ((VK r17.2 (Int.toNat r11.1) 2)++(E0++[[AV.val (.int .i64 x3),AV.val (.int .i64 x4),AV.slice false 1 r19,AV.val (.int .i64 x6)]]))))),0)):=by kernel_rfl
noncomputable def F13:Fn:=⟨21,[10,11],[],[],0,[],[],Try.f13,[.agg [.int .i64,.slice 4],.c (.int .i64),.c (.int .i64),.c (.slice 1),.c (.int .i64)],[.agg [.int .i64,.slice 4],.c (.int .i64)],[(42,F42.S)]⟩
theorem ZoT:F13.S.Ok Try.prog 13:=F13.ok Try.func13 (by kernel_rfl) ⟨Zom,trivial⟩
noncomputable def g13 (x0:Int) (x1:LL) (x2:Int) (x3:Int) (x4:LL) (x5:Int):Option (Int×LL×Int):=F13.S.g [.i x0,.l x1,.i x2,.i x3,.l x4,.i x5]
theorem ZmJ (x0:Int) (x1:LL) (x2:Int) (x3:Int) (x4:LL) (x5:Int):g13 x0 x1 x2 x3 x4 x5 =
 ((g42 x0 x1 x2 0 x3 x4 x5 false).bind fun (r6:Int×LL×Int)=>
 some (r6.1,r6.2.1,r6.2.2)):=by kernel_rfl
noncomputable def F12:Fn:=⟨27,[10,11,12],[],[],0,[],[],Try.f12,[.agg [.int .i64,.slice 4],.c (.int .i64),.c (.int .i64),.c (.slice 1),.c (.int .i64)],[.agg [.int .i64,.slice 4],.c (.int .i64),.c (.int .i64)],[(42,F42.S)]⟩
theorem Zog:F12.S.Ok Try.prog 12:=F12.ok Try.func12 (by kernel_rfl) ⟨Zom,trivial⟩
noncomputable def g12 (x0:Int) (x1:LL) (x2:Int) (x3:Int) (x4:LL) (x5:Int):Option (Int×LL×Int×Int):=F12.S.g [.i x0,.l x1,.i x2,.i x3,.l x4,.i x5]
theorem Zlh (x0:Int) (x1:LL) (x2:Int) (x3:Int) (x4:LL) (x5:Int):g12 x0 x1 x2 x3 x4 x5 =
 ((g42 x0 x1 x2 0 x3 x4 x5 true).bind fun (r6:Int×LL×Int)=>
 some (r6.1,r6.2.1,r6.1,r6.2.2)):=by kernel_rfl
end Go.Proofs.Ytigknndkmlhmfaa
end

section
namespace Go.Proofs.Ytigknndkmlhmfaa
open Go Go.AM
set_option linter.unusedVariables false
set_option maxRecDepth 100000
noncomputable def F14:Fn:=⟨92,[6,7,8],[],[],0,[],[(17,[(11,2),(11,2)])],Try.f14,[.agg [.int .i64,.slice 4],.c (.int .i64),.c (.int .i64)],[.agg [.int .i64,.slice 4],.agg [.int .i64,.int .i64,.slice 1,.int .i64],.c (.int .i64)],[(22,F22.S),(39,F39.S),(40,F40.S),(43,F43.S)]⟩
theorem Zoh:F14.S.Ok Try.prog 14:=F14.ok Try.func14 (by kernel_rfl) ⟨Zmu,⟨Zn2,⟨ZnD,⟨ZnM,trivial⟩⟩⟩⟩
noncomputable def g14 (x0:Int) (x1:LL) (x2:Int) (x3:Int):Option (Int×LL×Int×Int×LL×Int×Int):=F14.S.g [.i x0,.l x1,.i x2,.i x3]
theorem Zk4 (x0:Int) (x1:LL) (x2:Int) (x3:Int):g14 x0 x1 x2 x3 =
 ((g22 x0 x1).bind fun (r4:Bool)=>
 if (!r4)=true then
 some (0,E0,0,0,E0,0,74)
 else
 (g39 x0 x1).bind fun (r5:LL)=>
 ZF (qop .mapv r5 0=true)<|
 Jk (ZbL r5 x2 [AV.val (.int .i64 0)]) 0 [.int .i64,.bool] fun (r6:Int×Bool)=>
 if (!r6.2)=true then
 some (0,E0,0,0,E0,0,17)
 else
 Jk x1 r6.1 [.int .i64,.int .i64,.slice 4,.slice 4] fun (r8:Int×Int×LL×LL)=>
 if (cop .neq r8.2.1 x3)=true then
 some (0,E0,0,0,E0,0,8)
 else
 Jk x1 r6.1 [.int .i64,.int .i64,.slice 4,.slice 4] fun (r12:Int×Int×LL×LL)=>
 if (cop .eql (List.length r12.2.2.1:Int) 0)=true then
 some (0,E0,0,0,E0,0,2)
 else
 (g40 x0 x1).bind fun (r16:Int×LL)=>
 ZF ((0:Int)≤r6.1)<|
 ZF ((r6.1:Int) < (List.length r16.2:Int))<|
 Jk (Zjw (KK r16.2 (Int.toNat r6.1) 2 1) 2 1) r6.1 [.slice 4] fun (r18:LL)=>
 Jk r18 0 [.int .i64,.int .i64,.slice 1,.int .i64] fun (r19:Int×Int×LL×Int)=>
 Jk (Zjw (KK (KK r16.2 (Int.toNat r6.1) 2 1) (Int.toNat r6.1) 2 1) 2 1) r6.1 [.slice 4] fun (r23:LL)=>
 ZF ((0:Int)≤1)<|
 ZF ((1:Int)≤(List.length r23:Int))<|
 ZF ((0:Int)≤r6.1)<|
 ZF ((r6.1:Int) < (List.length (KK (KK r16.2 (Int.toNat r6.1) 2 1) (Int.toNat r6.1) 2 1):Int))<|
 if (cop .gtr r19.1 0)=true then
 ZF ((0:Int)≤r6.1)<|
 ZF (qop (.nst 3 4 41) (ZD (KK (KK r16.2 (Int.toNat r6.1) 2 1) (Int.toNat r6.1) 2 1) (Int.toNat r6.1) 2 [AV.slice false 4 (List.drop (Int.toNat 1) r23)]) r6.1=true)<|
 ZF (YL (VK (ZD (KK (KK r16.2 (Int.toNat r6.1) 2 1) (Int.toNat r6.1) 2 1) (Int.toNat r6.1) 2 [AV.slice false 4 (List.drop (Int.toNat 1) r23)]) (Int.toNat r6.1) 3) (E0++[[AV.val (.int .i64 r19.1),AV.val (.int .i64 r19.2.1),AV.slice false 1 r19.2.2.1,AV.val (.int .i64 r19.2.2.2)]]) 48)<|
 ZF ((0:Int)≤r6.1)<|
 ZF ((r6.1:Int) < (List.length (JZ (ZD (KK (KK r16.2 (Int.toNat r6.1) 2 1) (Int.toNat r6.1) 2 1) (Int.toNat r6.1) 2 [AV.slice false 4 (List.drop (Int.toNat 1) r23)]) (Int.toNat r6.1) 3 (AV.nest 4 false 41 E0)):Int))<|
 (g43 r19.2.2.1).bind fun (r24:LL)=>
 some (r16.1,(WZ (JZ (JZ (ZD (KK (KK r16.2 (Int.toNat r6.1) 2 1) (Int.toNat r6.1) 2 1) (Int.toNat r6.1) 2 [AV.slice false 4 (List.drop (Int.toNat 1) r23)]) (Int.toNat r6.1) 3 (AV.nest 4 false 41 E0)) (Int.toNat r6.1) 3 (AV.nest 4 true 41 ((VK (ZD (KK (KK r16.2 (Int.toNat r6.1) 2 1) (Int.toNat r6.1) 2 1) (Int.toNat r6.1) 2 [AV.slice false 4 (List.drop (Int.toNat 1) r23)]) (Int.toNat r6.1) 3)++(E0++[[AV.val (.int .i64 r19.1),AV.val (.int .i64 r19.2.1),AV.slice false 1 r19.2.2.1,AV.val (.int .i64 r19.2.2.2)]]))))),r19.1,r19.2.1,r24,r19.2.2.2,0)
 else
 some (r16.1,(WZ (ZD (KK (KK r16.2 (Int.toNat r6.1) 2 1) (Int.toNat r6.1) 2 1) (Int.toNat r6.1) 2 [AV.slice false 4 (List.drop (Int.toNat 1) r23)])),r19.1,r19.2.1,r19.2.2.1,r19.2.2.2,0)):=by kernel_rfl
end Go.Proofs.Ytigknndkmlhmfaa
end

section
namespace Go.Proofs.Ytigknndkmlhmfaa
open Go Go.AM
set_option linter.unusedVariables false
set_option maxRecDepth 100000
noncomputable def F48.S:Fun:=Zoj true 41
theorem ZoD:F48.S.Ok Try.prog 48:=delF_ok (T:=62) (B:=4) (I:=3) (U:=0) (e:=41) (bytes:=48) mixed (by kernel_rfl) Try.func48 (by kernel_rfl) ⟨by kernel_rfl,by kernel_rfl,by kernel_rfl⟩
noncomputable def g48 (x0:LL) (x1 x2:Int):Option LL:=F48.S.g [.l x0,.i x1,.i x2]
theorem ZmT (x0:LL) (x1 x2:Int):g48 x0 x1 x2=ZnV x0 x1 x2:=rfl
noncomputable def F47:Fn:=⟨8,[3],[],[1],0,[],[],Try.f47,[.agg [.int .i64,.int .i64,.slice 1,.int .i64],.box [.int .i64]],[.c (.bool)],[]⟩
theorem ZoI:F47.S.Ok Try.prog 47:=F47.ok Try.func47 (by kernel_rfl) trivial
noncomputable def g47 (x0:Int) (x1:Int) (x2:LL) (x3:Int) (x4:Int):Option (Bool×Int):=F47.S.g [.i x0,.i x1,.l x2,.i x3,.i x4]
theorem Zle (x0:Int) (x1:Int) (x2:LL) (x3:Int) (x4:Int):g47 x0 x1 x2 x3 x4 =
 (some ((cop .eql x0 x4),x4)):=by kernel_rfl
noncomputable def ZeB:Fn:=⟨19,[4],[(2,[(0,.c (.slice 4)),(1,.clo 47 [19]),(7,.c (.int .i64)),(8,.c (.int .i64)),(19,.gbox [.int .i64])])],[],1,[],[],Try.f46,[.c (.slice 4),.clo 47 [19],.dead,.dead,.dead,.dead,.dead,.dead,.dead,.dead,.dead,.dead,.dead,.dead,.dead,.dead,.dead,.dead,.dead,.gbox [.int .i64]],[.c (.int .i64)],[(47,F47.S)]⟩
theorem Zlr:ZeB.S.Ok Try.prog 46:=ZeB.ok Try.func46 (by kernel_rfl) ⟨ZoI,trivial⟩
noncomputable def Zga (x0:LL) (x1:Int):Option (Int×Int):=ZeB.S.g [.l x0,.i x1]
noncomputable def V8 (k:Nat) (x0:LL) (x1:Int) (x2:Int) (x3:Int):Option (Int×Int):=ZeB.lp [0] 0 r0 k [.l x0,.i x1,.i x2,.i x3]
theorem ZaU (k:Nat) (x0:LL) (x1:Int) (x2:Int) (x3:Int):V8 (k+1) x0 x1 x2 x3 =
 (if (cop .lss x2 x1)=true then
 Jk x0 x2 [.int .i64,.int .i64,.slice 1,.int .i64] fun (r4:Int×Int×LL×Int)=>
 (g47 r4.1 r4.2.1 r4.2.2.1 r4.2.2.2 x3).bind fun (r8:Bool×Int)=>
 if r8.1=true then
 some (x2,r8.2)
 else
 V8 k x0 x1 (iop .add .i64 x2 1) r8.2
 else
 some ((-1),x3)):=by kernel_rfl
theorem Zeg (x0:LL) (x1:Int):Zga x0 x1 =
 (V8 VP x0 (List.length x0:Int) 0 x1):=by kernel_rfl
noncomputable def F17:Fn:=⟨76,[8,9,10],[(6,[(2,.c (.int .i64)),(3,.c (.slice 1)),(4,.box [.int .i64,.slice 4]),(5,.box [.int .i64]),(8,.box [.int .i64,.slice 4]),(9,.box [.int .i64,.int .i64,.int .i64,.slice 1]),(26,.c (.slice 4)),(27,.c (.int .i64)),(28,.c (.int .i64))])],[],0,[],[(14,[(14,2),(14,2)])],Try.f17,[.agg [.int .i64,.slice 4],.c (.int .i64),.c (.int .i64),.c (.slice 1)],[.agg [.int .i64,.slice 4],.agg [.int .i64,.int .i64,.int .i64,.slice 1],.c (.int .i64)],[(22,F22.S),(46,ZeB.S),(40,F40.S),(48,F48.S),(43,F43.S)]⟩
theorem Zor:F17.S.Ok Try.prog 17:=F17.ok Try.func17 (by kernel_rfl) ⟨Zmu,⟨Zlr,⟨ZnD,⟨ZoD,⟨ZnM,trivial⟩⟩⟩⟩⟩
noncomputable def g17 (x0:Int) (x1:LL) (x2:Int) (x3:Int) (x4:LL):Option (Int×LL×Int×Int×Int×LL×Int):=F17.S.g [.i x0,.l x1,.i x2,.i x3,.l x4]
noncomputable def Zi0 (k:Nat) (x0:Int) (x1:LL) (x2:Int) (x3:LL) (x4:Int) (x5:Int) (x6:LL) (x7:Int) (x8:Int) (x9:Int) (x10:LL) (x11:LL) (x12:Int) (x13:Int):Option (Int×LL×Int×Int×Int×LL×Int):=F17.lp [0,1,1,0] 0 r0 k [.i x0,.l x1,.i x2,.l x3,.i x4,.i x5,.l x6,.i x7,.i x8,.i x9,.l x10,.l x11,.i x12,.i x13]
theorem Zgg (k:Nat) (x0:Int) (x1:LL) (x2:Int) (x3:LL) (x4:Int) (x5:Int) (x6:LL) (x7:Int) (x8:Int) (x9:Int) (x10:LL) (x11:LL) (x12:Int) (x13:Int):Zi0 (k+1) x0 x1 x2 x3 x4 x5 x6 x7 x8 x9 x10 x11 x12 x13 =
 (if (cop .lss x13 x12)=true then
 Jk x11 x13 [.int .i64,.int .i64,.slice 4,.slice 4] fun (r14:Int×Int×LL×LL)=>
 (Zga r14.2.2.2 x4).bind fun (r18:Int×Int)=>
 if (cop .lss r18.1 0)=true then
 Zi0 k x0 x1 x2 x3 r18.2 x5 x6 x7 x8 x9 x10 x11 x12 (iop .add .i64 x13 1)
 else
 if (cop .neq r14.2.1 x0)=true then
 some (0,E0,0,0,0,E0,8)
 else
 (g40 x2 x3).bind fun (r20:Int×LL)=>
 ZF ((0:Int)≤x13)<|
 ZF ((x13:Int) < (List.length r20.2:Int))<|
 ZF ((0:Int)≤x13)<|
 ZF (qop (.nst 3 4 41) r20.2 x13=true)<|
 (g48 (VK r20.2 (Int.toNat x13) 3) r18.1 (iop .add .i64 r18.1 1)).bind fun (r22:LL)=>
 ZF ((0:Int)≤x13)<|
 ZF ((x13:Int) < (List.length (JZ r20.2 (Int.toNat x13) 3 (AV.nest 4 false 41 E0)):Int))<|
 ZF ((0:Int)≤x13)<|
 ZF ((x13:Int) < (List.length (JZ r20.2 (Int.toNat x13) 3 (AV.nest 4 false 41 E0)):Int))<|
 Jk r14.2.2.2 r18.1 [.int .i64,.int .i64,.slice 1,.int .i64] fun (r23:Int×Int×LL×Int)=>
 (g43 x1).bind fun (r27:LL)=>
 some (r20.1,(WZ (JZ (JZ r20.2 (Int.toNat x13) 3 (AV.nest 4 false 41 E0)) (Int.toNat x13) 3 (AV.nest 4 true 41 r22))),r18.2,r23.2.1,0,r27,0)
 else
 some (0,E0,0,0,0,E0,17)):=by kernel_rfl
theorem Zli (x0:Int) (x1:LL) (x2:Int) (x3:Int) (x4:LL):g17 x0 x1 x2 x3 x4 =
 ((g22 x0 x1).bind fun (r5:Bool)=>
 if (!r5)=true then
 some (0,E0,0,0,0,E0,74)
 else
 if (cop .gtr (List.length x4:Int) 8)=true then
 some (0,E0,0,0,0,E0,1)
 else
 Zi0 VP x3 x4 x0 x1 x2 0 E0 0 0 0 E0 x1 (List.length x1:Int) 0):=by kernel_rfl
end Go.Proofs.Ytigknndkmlhmfaa
end

section
namespace Go.Proofs.Ytigknndkmlhmfaa
open Go Go.AM
set_option linter.unusedVariables false
set_option maxRecDepth 100000
noncomputable def F10:Fn:=⟨2,[0],[],[],0,[],[],Try.f10,[],[.agg [.int .i64,.slice 4]],[]⟩
theorem Zot:F10.S.Ok Try.prog 10:=F10.ok Try.func10 (by kernel_rfl) trivial
noncomputable def g10:Option (Int×LL):=F10.S.g []
theorem Zm4:g10 =
 (some (0,E0)):=by kernel_rfl
noncomputable def F41.S:Fun:=Zoi false 80 64
theorem ZoB:F41.S.Ok Try.prog 41:=insF_ok (T:=26) (B:=4) (I:=3) (e:=80) (fO:=67) (fR:=68) mixed (by kernel_rfl) Try.func41 (by kernel_rfl) ⟨by kernel_rfl,by kernel_rfl,by kernel_rfl⟩ Try.func67 (by kernel_rfl) (by kernel_rfl) (by kernel_rfl) (by kernel_rfl)
noncomputable def g41 (x0:LL) (x1:Int) (x2:LL):Option LL:=F41.S.g [.l x0,.i x1,.l x2]
theorem Zm5 (x0:LL) (x1:Int) (x2:LL):g41 x0 x1 x2=Zoe 64 x0 x1 x2:=rfl
noncomputable def F9:Fn:=⟨68,[6,7],[(11,[(1,.c (.int .i64)),(2,.c (.int .i64)),(3,.box [.int .i64,.slice 4]),(6,.box [.int .i64,.slice 4]),(10,.c (.int .i64))])],[],0,[],[(14,[(11,2)])],Try.f9,[.agg [.int .i64,.slice 4],.c (.int .i64),.c (.int .i64)],[.agg [.int .i64,.slice 4],.c (.int .i64)],[(22,F22.S),(37,F37.S),(38,F38.S),(39,F39.S),(40,F40.S),(41,F41.S)]⟩
theorem ok9:F9.S.Ok Try.prog 9:=F9.ok Try.func9 (by kernel_rfl) ⟨Zmu,⟨Zoo,⟨Zn3,⟨Zn2,⟨ZnD,⟨ZoB,trivial⟩⟩⟩⟩⟩⟩
noncomputable def g9 (x0:Int) (x1:LL) (x2:Int) (x3:Int):Option (Int×LL×Int):=F9.S.g [.i x0,.l x1,.i x2,.i x3]
noncomputable def Zn6 (k:Nat) (x0:Int) (x1:Int) (x2:Int) (x3:LL) (x4:Int) (x5:LL) (x6:Int):Option (Int×LL×Int):=F9.lp [0,1,0,1,0,1,3,1,1,0] 0 r0 k [.i x0,.i x1,.i x2,.l x3,.i x4,.l x5,.i x6]
theorem Zmn (k:Nat) (x0:Int) (x1:Int) (x2:Int) (x3:LL) (x4:Int) (x5:LL) (x6:Int):Zn6 (k+1) x0 x1 x2 x3 x4 x5 x6 =
 (if (cop .lss x6 (List.length x3:Int))=true then
 Jk x3 x6 [.int .i64,.int .i64,.slice 4,.slice 4] fun (r7:Int×Int×LL×LL)=>
 if (cop .lss r7.1 x0)=true then
 Zn6 k x0 x1 x2 x3 x4 x5 (iop .add .i64 x6 1)
 else
 (g40 x2 x3).bind fun (r11:Int×LL)=>
 (g41 (WZ r11.2) x6 (E0++[[AV.val (.int .i64 x0),AV.val (.int .i64 x1),AV.slice false 4 E0,AV.slice false 4 E0]])).bind fun (r13:LL)=>
 some (r11.1,r13,0)
 else
 (g40 x2 x3).bind fun (r7:Int×LL)=>
 (g41 (WZ r7.2) x6 (E0++[[AV.val (.int .i64 x0),AV.val (.int .i64 x1),AV.slice false 4 E0,AV.slice false 4 E0]])).bind fun (r9:LL)=>
 some (r7.1,r9,0)):=by kernel_rfl
theorem Zn1 (x0:Int) (x1:LL) (x2:Int) (x3:Int):g9 x0 x1 x2 x3 =
 ((g22 x0 x1).bind fun (r4:Bool)=>
 if (!r4)=true then
 some (0,E0,74)
 else
 (g37 x2).bind fun (r5:Bool)=>
 if (!r5)=true then
 some (0,E0,1)
 else
 (g38 x3).bind fun (r6:Bool)=>
 if (!r6)=true then
 some (0,E0,1)
 else
 (g39 x0 x1).bind fun (r7:LL)=>
 ZF (qop .mapv r7 0=true)<|
 Jk (ZbL r7 x2 [AV.val (.int .i64 0)]) 0 [.int .i64,.bool] fun (r8:Int×Bool)=>
 if r8.2=true then
 some (0,E0,56)
 else
 if (cop .eql (List.length x1:Int) 32)=true then
 some (0,E0,15)
 else
 Zn6 VP x2 x3 x0 x1 0 E0 0):=by kernel_rfl
end Go.Proofs.Ytigknndkmlhmfaa
end

section
namespace Go.Proofs.Ytigknndkmlhmfaa
open Go Go.AM
set_option linter.unusedVariables false
set_option maxRecDepth 100000
noncomputable def F8:Fn:=⟨90,[0],[],[],0,[],[],Try.f8,[],[.c (.bool)],[(10,F10.S),(9,F9.S),(12,F12.S),(14,F14.S),(17,F17.S),(22,F22.S)]⟩
theorem ok8:F8.S.Ok Try.prog 8:=F8.ok Try.func8 (by kernel_rfl) ⟨Zot,⟨ok9,⟨Zog,⟨Zoh,⟨Zor,⟨Zmu,trivial⟩⟩⟩⟩⟩⟩
noncomputable def g8:Option (Bool):=F8.S.g []
end Go.Proofs.Ytigknndkmlhmfaa
end

section
namespace Go.Proofs.Ytigknndkmlhmfaa
open Go Go.AM
set_option linter.unusedVariables false
set_option maxRecDepth 100000
end Go.Proofs.Ytigknndkmlhmfaa
end

section
namespace Go.Proofs.Ytigknndkmlhmfaa
open Go Go.AM
set_option linter.unusedVariables false
set_option maxRecDepth 100000
noncomputable def F15:Fn:=⟨15,[4],[],[],0,[],[],Try.f15,[.c (.int .i64),.c (.int .i64)],[.c (.int .i64)],[]⟩
theorem ZoG:F15.S.Ok Try.prog 15:=F15.ok Try.func15 (by kernel_rfl) trivial
noncomputable def g15 (x0:Int) (x1:Int):Option (Int):=F15.S.g [.i x0,.i x1]
theorem Zm3 (x0:Int) (x1:Int):g15 x0 x1 =
 (ZF ((x1:Int)≠0)<|
 if (cop .lss (iop .rem .i64 x0 x1) 0)=true then
 some ((iop .add .i64 (iop .rem .i64 x0 x1) x1))
 else
 some ((iop .rem .i64 x0 x1))):=by kernel_rfl
end Go.Proofs.Ytigknndkmlhmfaa
end

section
namespace Go.Proofs.Ytigknndkmlhmfaa
open Go Go.AM
set_option linter.unusedVariables false
set_option maxRecDepth 100000
end Go.Proofs.Ytigknndkmlhmfaa
end

section
namespace Go.Proofs.Ytigknndkmlhmfaa
open Go Go.AM
set_option linter.unusedSimpArgs false
set_option linter.unusedVariables false
set_option maxRecDepth 100000
theorem behind : ∃ ws, behindMainWord (wordsSigns Try.prog.initOrder.toList) = "cut".toList :: ws := by
 have h:Try.prog.initOrder.toList=_:=String.toList_ofList (l:=_)
 rw [h]
 exact ZdW (by kernel_rfl) (by kernel_rfl) (by kernel_rfl) (by kernel_rfl) (by kernel_rfl) (by kernel_rfl)
theorem ZmZ:Try.prog.mayEnter=true:=behind.elim fun _ h=>Go.AM.enters_of h (by kernel_rfl) (by kernel_rfl) (by kernel_rfl)
theorem Zoc:Try.prog.liftsFinal=false:=behind.elim fun _ h=>Go.AM.final_of h
theorem Zno:Try.prog.make=some .cut:=behind.elim fun _ h=>Go.AM.make_of h
theorem ZoM:laidOutB Try.prog=true:=by kernel_rfl
theorem Zii:ownKnob Try.prog.godebug=none:=by kernel_rfl
theorem Znc {d:Nat} {cs:List AV} (h:TyR Try.prog (d+1) 3 cs):∃ z,cs = [I z]:=by
 simp only [TyR,Try.underlying3] at h
 obtain ⟨z,h,_⟩:=h
 exact ⟨z,h⟩
def u64 (z:Int):AV:=.val (.int .u64 z)
theorem Zmz {d:Nat} {cs:List AV} (h:TyR Try.prog (d+1) 44 cs):∃ z,cs = [u64 z]:=by
 simp only [TyR,Try.underlying44] at h
 obtain ⟨z,h,_⟩:=h
 exact ⟨z,h⟩
theorem arg_int {x:AV} (h:ZbU Try.prog 8 3 x):∃ z,x=I z:=by
 simp only [ZbU,Try.underlying3] at h
 obtain ⟨z,hz⟩:=Znc h.2
 exact ⟨z,by simpa using hz⟩
theorem Zl3 {x:AV} (h:ZbU Try.prog 8 44 x):∃ z,x=u64 z:=by
 simp only [ZbU,Try.underlying44] at h
 obtain ⟨z,hz⟩:=Zmz h.2
 exact ⟨z,by simpa using hz⟩
def Zlk:List TypeId:=[3,4,22,23,24,44]
theorem ZnS (t:TypeId) (h:Zlk.contains t=true):Zab Try.prog 8 t=true∧t < Try.prog.types.size∧Try.prog.readableRec t=true:=by
 have h2:Zlk.all (fun t=>Zab Try.prog 8 t&&decide (t < Try.prog.types.size)&&Try.prog.readableRec t)=true:=by kernel_rfl
 rw [List.all_eq_true] at h2
 have:=h2 t (by simpa using h)
 simpa [and_assoc] using this
theorem ZmI {n:Nat} (h:n < 2^63):n+1 < VP:=by
 have:(2:Nat)^64≤VP:=by decide
 omega
theorem Zf3 {α γ:Type} {f:α→List AV} {sh:List Sh} {v:α→ShsT sh} (hf:∀ x,ZiA sh (f x)=some (v x)) {l:List α} {i:Nat} (h:i < l.length) (k:ShsT sh→Option γ):Jk (l.map f) (i:Int) sh k=k (v l[i]):=by
 refine Y1 k (by omega) (cs:=f l[i]) ?_ (hf _)
 rw [Int.toNat_natCast,List.getElem?_map,List.getElem?_eq_getElem h]
 rfl
theorem JU {a b:LL} {k:Nat} (h:a.length+b.length≤4096) (hk:k≤10000):YL a b k:=by
 unfold YL Z1
 have:(a.length+b.length)*(k+1)≤4096*10001:=Nat.mul_le_mul h (by omega)
 omega
def Ret {α:Type} (P:α→Prop) (o:Option α):Prop:=∃ r,o=some r∧P r
theorem ZH {α:Type} {P:α→Prop} {a:α} (h:P a):Ret P (some a):=⟨a,rfl,h⟩
theorem Zda {α β:Type} {P:β→Prop} {Q:α→Prop} {o:Option α} {f:α→Option β} (h:Ret Q o) (k:∀ r,Q r→Ret P (f r)):Ret P (o.bind f):=by
 obtain ⟨r,rfl,hr⟩:=h
 exact k r hr
theorem Zb {α:Type} {P:α→Prop} {c:Prop} {_:Decidable c} {a b:Option α} (h1:c→Ret P a) (h2:¬ c→Ret P b):Ret P (if c then a else b):=by
 split
 ·exact h1 ‹_›
 ·exact h2 ‹_›
theorem Zn {α:Type} {P:α→Prop} {p:Prop} {_:Decidable p} {x:Option α} (h:p) (k:Ret P x):Ret P (ZF p x):=by
 rw [JN h];exact k
theorem Zy {α:Type} {P:α→Prop} {a b:Option α} (h:a=b) (k:Ret P b):Ret P a:=h ▸ k
theorem Za {α β:Type} {P:β→Prop} {o:Option α} {a:α} {f:α→Option β} (h:o=some a) (k:Ret P (f a)):Ret P (o.bind f):=by
 subst h;exact k
theorem JT {α:Type} {o:Option α} {a:α} (h:Ret (fun r=>r=a) o):o=some a:=by
 obtain ⟨r,e,rfl⟩:=h
 exact e
theorem Zj7 {σ γ:Type} {P:γ→Prop} {F:Nat→σ→Int→Option γ} {n:Nat} (J:Nat→σ→Prop) (hn:n < 2^63)
  (step:∀ (k i:Nat) (s:σ),i < n→J i s→(∀ s',J (i+1) s'→Ret P (F k s' ((i+1:Nat):Int)))→Ret P (F (k+1) s (i:Int)))
  (last:∀ (k:Nat) (s:σ),J n s→Ret P (F (k+1) s (n:Int))) (s:σ) (h:J 0 s):Ret P (F VP s 0):=by
 have key:∀ (j i fuel:Nat) (s:σ),i+j=n→j < fuel→J i s→Ret P (F fuel s (i:Int)):=by
  intro j
  induction j with
  | zero =>
   intro i fuel s h hf hj
   obtain ⟨q,rfl⟩:∃ q,fuel=q+1:=⟨fuel-1,by omega⟩
   have:i=n:=by omega
   subst this
   exact last q s hj
  | succ j ih =>
   intro i fuel s h hf hj
   obtain ⟨q,rfl⟩:∃ q,fuel=q+1:=⟨fuel-1,by omega⟩
   exact step q i s (by omega) hj fun s' hs=>ih (i+1) q s' (by omega) (by omega) hs
 exact key n 0 VP s (by omega) (by have:=ZmI hn;omega) h
theorem Ji {σ γ:Type} {P:γ→Prop} {F:Nat→σ→Int→Option γ} (n:Nat) (J:Nat→σ→Prop) (hn:n < 1000)
  (step:∀ (k i:Nat) (s:σ),i≤n→J i s→(i < n→∀ s',J (i+1) s'→Ret P (F k s' ((i+1:Nat):Int)))→Ret P (F (k+1) s (i:Int))) (s:σ) (h:J 0 s):Ret P (F VP s 0):=by
 refine Zj7 (F:=F) (n:=n) J (by omega) (fun k i s hi hj ih=>step k i s (by omega) hj fun _=>ih) (fun k s hj=>step k n s (Nat.le_refl _) hj fun h=>absurd h (Nat.lt_irrefl _)) s h
theorem Wm {i n:Nat} (h:i≤n) (hn:n < 1000):iop .add .i64 (i:Int) 1=((i+1:Nat):Int):=by
 rw [Zi4 (by omega) (by omega)];omega
theorem Zj9 {l:LL} {i o:Nat} {v:List AV} (h:∀ r,l[i]? = some r→setCells r o v=r):ZD l i o v=l:=by
 unfold ZD
 apply List.ext_getElem?
 intro j
 rw [List.getElem?_modify]
 by_cases hij:i=j
 ·subst hij
  cases hx:l[i]? with
  | none => rfl
  | some r => simp [h r hx]
 ·cases hx:l[j]? with
  | none => rfl
  | some r => simp [hij]
end Go.Proofs.Ytigknndkmlhmfaa
end

section
namespace Go.Proofs.Ytigknndkmlhmfaa
open Go Go.AM
set_option linter.unusedSimpArgs false
set_option linter.unusedVariables false
set_option maxRecDepth 100000
structure Ms where
 t:Int
 c:Int
 w:LL
 s:Int
def mc (m:Ms):List AV:=[I m.t,I m.c,.slice false 1 m.w,I m.s]
def mv (m:Ms):Int×Int×LL×Int:=(m.t,m.c,m.w,m.s)
def Ze3 (m:Ms):Prop:=0≤m.t∧0≤m.c∧m.c < 32∧m.w.length≤8∧-1≤m.s∧m.s < 64
structure Ep where
 o:Int
 v:Int
 q:List Ms
 s:List Ms
def ec (e:Ep):List AV:=[I e.o,I e.v,.slice false 4 (e.q.map mc),.slice false 4 (e.s.map mc)]
def ev (e:Ep):Int×Int×LL×LL:=(e.o,e.v,e.q.map mc,e.s.map mc)
def en (e:Ep):List AV:=[I e.o,I e.v,.nest 4 true 41 (e.q.map mc),.nest 4 true 41 (e.s.map mc)]
theorem WT {γ:Type} {l:List Ms} {i:Nat} (h:i < l.length) (k:Int×Int×LL×Int→Option γ):Jk (l.map mc) (i:Int) [.int .i64,.int .i64,.slice 1,.int .i64] k=k (mv l[i]):=Zf3 (f:=mc) (sh:=[.int .i64,.int .i64,.slice 1,.int .i64]) (v:=mv) (fun _=>rfl) h k
theorem YS {γ:Type} {l:List Ep} {i:Nat} (h:i < l.length) (k:Int×Int×LL×LL→Option γ):Jk (l.map ec) (i:Int) [.int .i64,.int .i64,.slice 4,.slice 4] k=k (ev l[i]):=Zf3 (f:=ec) (sh:=[.int .i64,.int .i64,.slice 4,.slice 4]) (v:=ev) (fun _=>rfl) h k
theorem s65 (x:LL) (h:x.length < 1000):g65 x=some x:=by
 rw [ZmO]
 have hr:YL E0 x 64:=JU (by simp;omega) (by decide)
 cases x with
 | nil => simp [Zg0, ZF, hr]
 | cons a x => simp [Zg0, ZF, hr]
theorem s75 (x:LL) (h:x.length < 1000):g75 x=some x:=by
 rw [Znp]
 have hr:YL E0 x 48:=JU (by simp;omega) (by decide)
 cases x with
 | nil => simp [Zg0, ZF, hr]
 | cons a x => simp [Zg0, ZF, hr]
theorem s43 (x:LL) (h:x.length < 1000):g43 x=some x:=by
 rw [ZmD]
 have hr:YL E0 x 8:=JU (by simp;omega) (by decide)
 cases x with
 | nil => simp [Zg0, ZF, hr]
 | cons a x => simp [Zg0, ZF, hr]
theorem s66 (ms:List Ms) (hl:ms.length < 1000) (hw:∀ m∈ms,m.w.length < 1000):g66 (ms.map mc)=some (ms.map mc):=by
 refine JT ?_
 rw [Znk]
 refine Za (s75 _ (by simpa using hl)) ?_
 rw [List.length_map]
 refine Ji (F:=fun k (s:LL) i=>ZjB k s (ms.length:Int) i) ms.length (fun _ s=>s=ms.map mc) hl (fun k i s hi hs next=>?_) (ms.map mc) rfl
 subst hs
 refine Zy (ZkG ..) (Zb (fun h=>?_) fun _=>ZH rfl)
 simp only [CQ] at h
 have hi':i < ms.length:=by omega
 have r1:(0:Int)≤(i:Int):=Int.natCast_nonneg i
 have r2:(i:Int) < ((ms.map mc).length:Int):=by rw [List.length_map];omega
 refine Zn r1 (Zn r2 (Zy (WT hi' _) (Za (s43 ms[i].w (hw _ (List.getElem_mem hi'))) (Zn r1 (Zn r2 (Zn r1 (Zn r2 ?_)))))))
 rw [Wm hi hl]
 refine next hi' _ (Zj9 fun r hr=>?_)
 rw [Int.toNat_natCast,List.getElem?_map,List.getElem?_eq_getElem hi'] at hr
 simp only [Option.map_some,Option.some.injEq] at hr
 subst hr
 rfl
theorem ZnB (es:List Ep):ZhS (es.map ec)=es.map ec:=by
 unfold ZhS
 rw [List.map_map]
 exact List.map_congr_left fun e _=>rfl
theorem ZmX (es:List Ep):WZ (es.map en)=es.map ec:=by
 unfold WZ
 rw [List.map_map]
 exact List.map_congr_left fun e _=>rfl
def mix (es:List Ep) (i:Nat):LL:=(es.take i).map en++(es.drop i).map ec
theorem Znf {es:List Ep} {i:Nat} (h:i < es.length):(mix es i)[i]? = some (ec es[i]):=by
 unfold mix
 rw [List.getElem?_append_right (by simp;omega)]
 have:i-((es.take i).map en).length=0:=by simp;omega
 rw [this,List.getElem?_map,List.getElem?_drop,Nat.add_zero,List.getElem?_eq_getElem h]
 rfl
theorem Zfy (es:List Ep) (i:Nat):(mix es i).length=es.length:=by
 simp only [mix,List.length_append,List.length_map,List.length_take,List.length_drop];omega
theorem YU {α:Type} {l:List α} {i:Nat} {f:α→α} {a:α} (h:l[i]? = some a):l.modify i f=l.set i (f a):=by
 apply List.ext_getElem?
 intro j
 rw [List.getElem?_modify,List.getElem?_set]
 have hi:=(List.getElem?_eq_some_iff.1 h).1
 by_cases hij:i=j
 ·subst hij
  rw [h]
  simp [hi]
 ·simp [hij]
theorem Zf5 {α:Type} {l:List α} {i:Nat} {f:α→α} {a:α} (h:l[i]? = some a) (hf:f a=a):l.modify i f=l:=by
 rw [YU h,hf]
 apply List.ext_getElem?
 intro j
 rw [List.getElem?_set]
 have hi:=(List.getElem?_eq_some_iff.1 h).1
 by_cases hij:i=j
 ·subst hij
  rw [h]
  simp [hi]
 ·simp [hij]
theorem Zkq {es:List Ep} {i:Nat} (h:i < es.length):(mix es i).set i (en es[i])=mix es (i+1):=by
 have h1:((es.take i).map en).length=i:=by simp;omega
 unfold mix
 rw [List.set_append_right _ _ (by omega),h1,Nat.sub_self,List.drop_eq_getElem_cons h,List.map_cons,List.set_cons_zero,List.take_succ_eq_append_getElem h,List.map_append,List.append_assoc]
 rfl
theorem s40 (n:Int) (es:List Ep) (hl:es.length < 1000) (hq:∀ e∈es,e.q.length < 1000∧e.s.length < 1000∧(∀ m∈e.q,m.w.length < 1000)∧∀ m∈e.s,m.w.length < 1000):g40 n (es.map ec)=some (n,es.map en):=by
 refine JT ?_
 rw [ZmG]
 refine Za (s65 _ (by simpa using hl)) ?_
 rw [ZnB,List.length_map]
 have h0:es.map ec=mix es 0:=by simp [mix]
 have hn:es.map en=mix es es.length:=by simp [mix]
 rw [h0,hn]
 refine Ji (F:=fun k (s:LL) i=>ZjG k n s 0 E0 (es.length:Int) i) es.length (fun i s=>s=mix es i) hl (fun k i s hi hs next=>?_) (mix es 0) rfl
 subst hs
 refine Zy (Zkk ..) (Zb (fun h=>?_) fun h=>?_)
 ·simp only [CQ] at h
  have hi':i < es.length:=by omega
  have r1:(0:Int)≤(i:Int):=Int.natCast_nonneg i
  have hat:=Znf hi'
  have hz:KK (mix es i) i 0 4=mix es i:=Zf5 hat rfl
  have hel:∀ (k:Int×Int×LL×LL→Option (Int×LL)),Jk (Zjw (mix es i) 0 4) (i:Int) [.int .i64,.int .i64,.slice 4,.slice 4] k=k (ev es[i]):=fun k=>Y1 (sh:=[.int .i64,.int .i64,.slice 4,.slice 4]) k r1 (cs:=ec es[i]) (by
   rw [Int.toNat_natCast]
   unfold Zjw
   rw [List.getElem?_map,hat]
   rfl) rfl
  have r2:(i:Int) < ((mix es i).length:Int):=by rw [Zfy];omega
  obtain ⟨q1,q2,q3,q4⟩:=hq _ (List.getElem_mem hi')
  rw [Int.toNat_natCast,hz]
  obtain ⟨R1,hR1⟩:∃ R1:List AV,R1 = [I es[i].o,I es[i].v,.nest 4 true 41 (es[i].q.map mc),.slice false 4 (es[i].s.map mc)]:=⟨_,rfl⟩
  have hp1:JZ (mix es i) i 2 (.nest 4 true 41 (es[i].q.map mc))=(mix es i).set i R1:=by
   rw [hR1];exact YU hat
  have hp2:JZ ((mix es i).set i R1) i 3 (.nest 4 true 41 (es[i].s.map mc))=mix es (i+1):=by
   have hb:((mix es i).set i R1)[i]? = some R1:=by rw [List.getElem?_set];simp [Zfy,hi']
   have:JZ ((mix es i).set i R1) i 3 (.nest 4 true 41 (es[i].s.map mc))=((mix es i).set i R1).set i (en es[i]):=by
    rw [hR1] at hb ⊢
    exact YU hb
   rw [this,List.set_set,Zkq hi']
  have r3:(i:Int) < (((mix es i).set i R1).length:Int):=by rw [List.length_set,Zfy];omega
  refine Zn r1 (Zn r2 (Zy (hel _) (Za (s66 es[i].q q1 q3) (Zn r1 (Zn r2 (Zn r1 (Zn r2 (Za (s66 es[i].s q2 q4) ?_))))))))
  rw [hp1]
  refine Zn r1 (Zn r3 (Zn r1 (Zn r3 ?_)))
  rw [hp2,Wm hi hl]
  exact next hi' _ rfl
 ·simp only [CQ] at h
  have:i=es.length:=by omega
  subst this
  exact ZH rfl
end Go.Proofs.Ytigknndkmlhmfaa
end

section
namespace Go.Proofs.Ytigknndkmlhmfaa
open Go Go.AM
set_option linter.unusedSimpArgs false
set_option linter.unusedVariables false
set_option maxRecDepth 100000
theorem s37 (o:Int) (h0:0≤o) (h1:o≤1099511627775):g37 o=some true:=by
 refine JT ?_
 rw [Zm6]
 refine Zb (fun _=>ZH ?_) fun h=>?_
 ·simp only [CQ];exact h1
 ·simp only [CQ] at h;omega
theorem s38 (o:Int) (h0:0≤o) (h1:o < 32):g38 o=some true:=by
 refine JT ?_
 rw [ZmP]
 refine Zb (fun _=>ZH ?_) fun h=>?_
 ·simp only [CQ];exact h1
 ·simp only [CQ] at h;omega
theorem s69 (m:Ms) (h:Ze3 m):g69 m.t m.c m.w m.s=some true:=by
 obtain ⟨h1,h2,h3,h4,h5,h6⟩:=h
 refine JT ?_
 rw [ZmM]
 refine Zb (fun _=>Za (s38 m.c h2 h3) (Zb (fun _=>Zb (fun _=>Zb (fun _=>ZH ?_) fun h=>?_) fun h=>?_) fun h=>?_)) fun h=>?_
 ·simp only [CQ];exact h6
 ·simp only [CQ] at h;omega
 ·simp only [CQ] at h;omega
 ·exact (h rfl).elim
 ·simp only [CQ] at h;omega
structure Zn5 (e:Ep):Prop where
 o0:0≤e.o
 o1:e.o≤1099511627775
 v0:0≤e.v
 v1:e.v < 32
 ql:e.q.length≤8
 sl:e.s.length≤400
 qm:∀ m∈e.q,Ze3 m
 sm:∀ m∈e.s,Ze3 m∧m.t≠0
theorem s52 (e:Ep) (h:Zn5 e):g52 e.o e.v (e.q.map mc) (e.s.map mc)=some true:=by
 refine JT ?_
 have hql:=h.ql
 have hsl:=h.sl
 rw [ZmK]
 refine Zb (fun hh=>?_) fun _=>?_
 ·simp only [CQ,List.length_map] at hh;omega
 have hlast:Ret (fun r=>r=true) (ZhZ VP (e.s.map mc) (List.length (e.s.map mc):Int) 0):=by
  rw [List.length_map]
  refine Ji (F:=fun k (_:Unit) i=>ZhZ k (e.s.map mc) (e.s.length:Int) i) e.s.length (fun _ _=>True) (by omega) (fun k i _ hi _ next=>?_) () trivial
  refine Zy (Zkz ..) (Zb (fun hh=>?_) fun _=>ZH rfl)
  simp only [CQ] at hh
  have hi':i < e.s.length:=by omega
  obtain ⟨m1,m2⟩:=h.sm _ (List.getElem_mem hi')
  refine Zy (WT hi' _) (Za (s69 _ m1) (Zb (fun h=>by cases h) fun _=>Zb (fun h=>?_) fun _=>?_))
  ·simp only [CQ,mv] at h;exact (m2 h).elim
  ·rw [Wm hi (by omega)]
   exact next hi' () trivial
 rw [List.length_map]
 refine Ji (F:=fun k (_:Unit) i=>Zkv k e.o e.v (e.q.map mc) (e.s.map mc) (e.q.map mc) (e.q.length:Int) i) e.q.length (fun _ _=>True) (by omega) (fun k i _ hi _ next=>?_) () trivial
 refine Zy (ZjH ..) (Zb (fun hh=>?_) fun _=>hlast)
 simp only [CQ] at hh
 have hi':i < e.q.length:=by omega
 refine Zy (WT hi' _) (Za (s69 _ (h.qm _ (List.getElem_mem hi'))) (Zb (fun h=>by cases h) fun _=>?_))
 rw [Wm hi (by omega)]
 exact next hi' () trivial
theorem Znx:∃ q,VP=q+4:=by
 have:(2:Nat)^64≤VP:=by decide
 exact ⟨VP-4,by omega⟩
theorem s70 (n:Nat) (h:n≤1000):g70 E0 (n:Int)=some []:=by
 rw [Zng]
 unfold ZlR
 rw [JN rfl,JN (Int.natCast_nonneg n),JN (by rw [Int.toNat_natCast];unfold Z1;omega)]
theorem s44 (a b:List Ms) (ha:a.length≤400) (hb:b.length≤400):g44 ((E0++[[AV.slice false 4 (a.map mc)]])++[[AV.slice false 4 (b.map mc)]])=some ((a++b).map mc):=by
 refine JT ?_
 obtain ⟨L,hL⟩:∃ L:LL,L=((E0++[[AV.slice false 4 (a.map mc)]])++[[AV.slice false 4 (b.map mc)]]):=⟨_,rfl⟩
 rw [← hL]
 have hlen:L.length=2:=by rw [hL];rfl
 have e0:∀ {γ:Type} (k:LL→Option γ),Jk L 0 [.slice 4] k=k (a.map mc):=fun k=>Y1 (sh:=[.slice 4]) k (by decide) (cs:=[AV.slice false 4 (a.map mc)]) (by rw [hL];rfl) rfl
 have e1:∀ {γ:Type} (k:LL→Option γ),Jk L (0+1:Nat) [.slice 4] k=k (b.map mc):=fun k=>Y1 (sh:=[.slice 4]) k (by decide) (cs:=[AV.slice false 4 (b.map mc)]) (by rw [hL];rfl) rfl
 obtain ⟨f,hf⟩:=Znx
 have i1:iop .add .i64 0 1=((0+1:Nat):Int):=by decide
 have i2:iop .add .i64 ((0+1:Nat):Int) 1=2:=by decide
 have hmap:a.map mc++b.map mc=(a++b).map mc:=by rw [List.map_append]
 have hno:∀ (x y:Nat),x≤1000→y≤1000→iop .add .i64 (x:Int) (y:Int)=((x+y:Nat):Int):=fun x y hx hy=>by
  rw [Zi4 (by omega) (by omega)];omega
 rw [Zni,hlen,hf]
 refine Zy (ZdD ..) (Zb (fun _=>?_) fun h=>(h (by decide)).elim)
 refine Zy (e0 _) ?_
 rw [List.length_map,show ((0:Int))=((0:Nat):Int) from rfl,hno 0 a.length (by omega) (by omega)]
 refine Zb (fun h=>?_) fun _=>?_
 ·simp only [CQ] at h;omega
 rw [show iop .add .i64 ((0:Nat):Int) 1=((0+1:Nat):Int) from i1]
 refine Zy (ZdD ..) (Zb (fun _=>?_) fun h=>(h (by decide)).elim)
 refine Zy (e1 _) ?_
 rw [List.length_map,hno (0+a.length) b.length (by omega) (by omega)]
 refine Zb (fun h=>?_) fun _=>?_
 ·simp only [CQ] at h;omega
 rw [i2]
 refine Zy (ZdD ..) (Zb (fun h=>by cases h) fun _=>?_)
 refine Za (s70 _ (by omega)) ?_
 rw [hlen,hf]
 refine Zy (ZdC ..) (Zb (fun _=>?_) fun h=>(h (by decide)).elim)
 refine Zy (e0 _) (Zn (JU (by simp;omega) (by decide)) ?_)
 rw [i1]
 refine Zy (ZdC ..) (Zb (fun _=>?_) fun h=>(h (by decide)).elim)
 refine Zy (e1 _) (Zn (JU (by simp;omega) (by decide)) ?_)
 rw [i2]
 refine Zy (ZdC ..) (Zb (fun h=>by cases h) fun _=>ZH ?_)
 rw [List.nil_append,hmap]
def kv (k:Int):List AV:=[I k,B true]
def Zaa (K:List Int):LL:=[[.slice false 2 (K.map kv)]]
theorem ZlB {K:List Int} {t:Int} (h:t∉K):ZbL (Zaa K) t [AV.val (.bool false)] = [[AV.val (.bool false),AV.val (.bool false)]]:=by
 have hf:(JC (Zaa K)).find? (fun r=>ZT r == some t)=none:=by
  rw [List.find?_eq_none]
  intro r hr
  obtain ⟨k,hk,rfl⟩:=List.mem_map.1 (show r∈K.map kv from hr)
  show ¬ ((some k == some t)=true)
  intro e
  have:k=t:=by simpa using e
  exact h (this ▸ hk)
 unfold ZbL
 rw [hf]
 rfl
theorem Zlx {K:List Int} {t:Int} (h:t∉K):ZhP (Zaa K) t [AV.val (.bool true)]=Zaa (K++[t]):=by
 have ha:((K.map kv).any fun r=>ZT r == some t)=false:=by
  rw [List.any_eq_false]
  intro r hr
  obtain ⟨k,hk,rfl⟩:=List.mem_map.1 hr
  show ¬ ((some k == some t)=true)
  intro e
  have:k=t:=by simpa using e
  exact h (this ▸ hk)
 have hr:JC (Zaa K)=K.map kv:=rfl
 unfold ZhP Kj
 rw [hr,ha,if_neg Bool.false_ne_true]
 unfold Zaa
 rw [List.map_append]
 rfl
def tk (l:List Ms):List Int:=(l.map Ms.t).filter fun t=>decide (t≠0)
def tkE (es:List Ep):List Int:=es.flatMap fun e=>tk (e.q++e.s)
theorem ZfU {l:List Ms} {j:Nat} (h:j < l.length):tk (l.take (j+1))=if l[j].t=0 then tk (l.take j) else tk (l.take j)++[l[j].t]:=by
 unfold tk
 rw [List.take_succ_eq_append_getElem h,List.map_append,List.filter_append]
 by_cases h0:l[j].t=0
 ·rw [if_pos h0];simp [h0]
 ·rw [if_neg h0];simp [h0]
theorem Znt {l:List Ms} (j:Nat):∃ r,tk l=tk (l.take j)++r:=by
 refine ⟨tk (l.drop j),?_⟩
 unfold tk
 rw [← List.filter_append,← List.map_append,List.take_append_drop]
structure Vld (n:Int) (es:List Ep):Prop where
 n0:0≤n
 n1:n≤1099511627776
 len:es.length≤32
 ok:∀ e∈es,Zn5 e
 ord:es.Pairwise fun a b=>a.o < b.o
 nd:(tkE es).Nodup
 le:∀ t∈tkE es,t≤n
theorem inner {P:Bool→Prop} (rec0:List V→Option Bool) (n:Int) (es:LL) (K:List Int) (l:List Ms) (x4 x5:Int) (hl:l.length≤800) (hnd:(K++tk l).Nodup) (hle:∀ t∈tk l,t≤n)
  (h:Ret P (rec0 [.i n,.l es,.l (Zaa (K++tk l)),.l es,.i x4,.i (iop .add .i64 x5 1)])) :
  Ret P (ZeQ rec0 VP n es (Zaa K) es x4 x5 (l.map mc) (List.length (l.map mc):Int) 0):=by
 rw [List.length_map]
 refine Ji (F:=fun k (s:LL) i=>ZeQ rec0 k n es s es x4 x5 (l.map mc) (l.length:Int) i) l.length (fun i s=>s=Zaa (K++tk (l.take i))) (by omega) (fun k i s hi hs next=>?_) (Zaa K) (by simp [tk])
 subst hs
 refine Zy (ZkC ..) (Zb (fun hh=>?_) fun hh=>?_)
 ·simp only [CQ] at hh
  have hi':i < l.length:=by omega
  have r1:(0:Int)≤(i:Int):=Int.natCast_nonneg i
  have r2:(i:Int) < ((l.map mc).length:Int):=by rw [List.length_map];omega
  refine Zn r1 (Zn r2 (Zy (WT hi' _) (Zb (fun h0=>?_) fun h0=>?_)))
  ·simp only [CQ,mv] at h0
   rw [Wm hi (by omega)]
   exact next hi' _ (by rw [ZfU hi',if_pos h0])
  ·simp only [CQ,mv] at h0
   have hnot:l[i].t∉K++tk (l.take i):=by
    intro hmem
    obtain ⟨r,hr⟩:=Znt (l:=l) (i+1)
    rw [hr,ZfU hi',if_neg h0] at hnd
    rw [← List.append_assoc,← List.append_assoc,List.nodup_append] at hnd
    have:=(List.nodup_append.1 hnd.1).2.2 _ hmem _ (List.mem_singleton.2 rfl)
    exact this rfl
   have hmem:l[i].t∈tk l:=by
    unfold tk
    rw [List.mem_filter]
    exact ⟨List.mem_map.2 ⟨l[i],List.getElem_mem hi',rfl⟩,by simp [h0]⟩
   refine Zn rfl ?_
   rw [show (mv l[i]).1=l[i].t from rfl,ZlB hnot]
   refine Zy (Y1 (sh:=[.bool,.bool]) (r:=(false,false)) _ (by decide) rfl rfl) (Zb (fun h=>by cases h) fun _=>Zb (fun h1=>?_) fun _=>Zn rfl ?_)
   ·simp only [CQ] at h1
    have:=hle _ hmem
    omega
   ·rw [Zlx hnot,Wm hi (by omega)]
    exact next hi' _ (by rw [ZfU hi',if_neg h0,List.append_assoc])
 ·simp only [CQ] at hh
  have:i=l.length:=by omega
  subst this
  rw [List.take_length]
  exact h
theorem Zf0 {es:List Ep} {j:Nat} (h:j < es.length):tkE (es.take (j+1))=tkE (es.take j)++tk (es[j].q++es[j].s):=by
 unfold tkE
 rw [List.take_succ_eq_append_getElem h,List.flatMap_append]
 simp
theorem ZlL {es:List Ep} (j:Nat):∃ r,tkE es=tkE (es.take j)++r:=by
 refine ⟨tkE (es.drop j),?_⟩
 unfold tkE
 rw [← List.flatMap_append,List.take_append_drop]
theorem s22 (n:Int) (es:List Ep) (h:Vld n es):g22 n (es.map ec)=some true:=by
 refine JT ?_
 have hlen:=h.len
 have hn0:=h.n0
 have hn1:=h.n1
 rw [Znv]
 refine Zb (fun hh=>?_) fun _=>Zb (fun hh=>?_) fun _=>Zb (fun hh=>?_) fun _=>?_
 ·simp only [CQ] at hh;omega
 ·simp only [CQ] at hh;omega
 ·simp only [CQ,List.length_map] at hh;omega
 rw [List.length_map]
 refine Ji (F:=fun k (s:LL) i=>Zl2 k n (es.map ec) s (es.map ec) (es.length:Int) i) es.length (fun i s=>s=Zaa (tkE (es.take i))) (by omega) (fun k i s hi hs next=>?_) _ rfl
 subst hs
 refine Zy (ZkP ..) (Zb (fun hh=>?_) fun _=>ZH rfl)
 simp only [CQ] at hh
 have hi':i < es.length:=by omega
 have he:=h.ok _ (List.getElem_mem hi')
 have hin:Ret (fun r=>r=true) ((g44 ((E0++[[AV.slice false 4 (ev es[i]).2.2.1]])++[[AV.slice false 4 (ev es[i]).2.2.2]])).bind fun (r17:LL)=>
   ZeQ (F22.lp [1,1,1,0] 0 r0 k) VP n (es.map ec) (Zaa (tkE (es.take i))) (es.map ec) (es.length:Int) (i:Int) r17 (List.length r17:Int) 0):=by
  refine Za (s44 es[i].q es[i].s (by have:=he.ql;omega) he.sl) ?_
  obtain ⟨r,hr⟩:=ZlL (es:=es) (i+1)
  rw [Zf0 hi'] at hr
  have hnd:=h.nd
  have hle:=h.le
  rw [hr] at hnd hle
  refine inner (F22.lp [1,1,1,0] 0 r0 k) n (es.map ec) _ (es[i].q++es[i].s) _ _ (by have:=he.ql;have:=he.sl;simp;omega) (List.nodup_append.1 hnd).1 (fun t ht=>hle t (by simp [ht])) ?_
  rw [Wm hi (by omega),← Zf0 hi']
  exact next hi' _ rfl
 refine Zy (YS hi' _) (Za (s37 _ he.o0 he.o1) (Zb (fun h=>by cases h) fun _=>Za (s38 _ he.v0 he.v1) (Zb (fun h=>by cases h) fun _=>Za (s52 _ he) (Zb (fun h=>by cases h) fun _=>Zb (fun hp=>?_) fun _=>?_))))
 ·simp only [CQ] at hp
  obtain ⟨j,rfl⟩:∃ j,i=j+1:=⟨i-1,by omega⟩
  have hs:iop .sub .i64 ((j+1:Nat):Int) 1=(j:Int):=by rw [Zod (by omega) (by omega)];omega
  rw [hs]
  have hj:j < es.length:=by omega
  refine Zy (YS hj _) (Zb (fun hg=>?_) fun _=>hin)
  simp only [CQ,ev] at hg
  have:=List.pairwise_iff_getElem.1 h.ord j (j+1) hj hi' (by omega)
  omega
 ·exact hin
end Go.Proofs.Ytigknndkmlhmfaa
end

section
namespace Go.Proofs.Ytigknndkmlhmfaa
open Go Go.AM
set_option linter.unusedSimpArgs false
set_option linter.unusedVariables false
set_option maxRecDepth 100000
def iv (p:Ep×Nat):List AV:=[I p.1.o,I (p.2:Int)]
def Zjv (es:List Ep):LL:=[[.slice false 2 (es.zipIdx.map iv)]]
theorem ZlG {es:List Ep} {e:Ep} (h:∀ x∈es,x.o≠e.o):ZhP (Zjv es) e.o [AV.val (.int .i64 (es.length:Int))]=Zjv (es++[e]):=by
 have ha:((es.zipIdx.map iv).any fun r=>ZT r == some e.o)=false:=by
  rw [List.any_eq_false]
  intro r hr
  obtain ⟨p,hp,rfl⟩:=List.mem_map.1 hr
  show ¬ ((some p.1.o == some e.o)=true)
  intro q
  have q':p.1.o=e.o:=by simpa using q
  exact h _ (List.fst_mem_of_mem_zipIdx hp) q'
 have hr:JC (Zjv es)=es.zipIdx.map iv:=rfl
 unfold ZhP Kj
 rw [hr,ha,if_neg Bool.false_ne_true]
 unfold Zjv
 rw [List.zipIdx_append,List.map_append,Nat.zero_add]
 rfl
theorem s39 (n:Int) (es:List Ep) (hl:es.length < 900) (ho:es.Pairwise fun a b=>a.o < b.o):g39 n (es.map ec)=some (Zjv es):=by
 refine JT ?_
 rw [Znb,List.length_map]
 refine Ji (F:=fun k (s:LL) i=>Zki k s (es.map ec) (es.length:Int) i) es.length (fun i s=>s=Zjv (es.take i)) (by omega) (fun k i s hi hs next=>?_) _ rfl
 subst hs
 refine Zy (ZjL ..) (Zb (fun hh=>?_) fun hh=>?_)
 ·simp only [CQ] at hh
  have hi':i < es.length:=by omega
  refine Zy (YS hi' _) (Zn rfl ?_)
  have hp:=ZlG (es:=es.take i) (e:=es[i]) (fun x hx=>by
   obtain ⟨j,hj,rfl⟩:=List.getElem_of_mem hx
   rw [List.length_take] at hj
   rw [List.getElem_take]
   have:=List.pairwise_iff_getElem.1 ho j i (by omega) hi' (by omega)
   omega)
  rw [List.length_take,Nat.min_eq_left hi] at hp
  rw [show (ev es[i]).1=es[i].o from rfl,hp,Wm hi (by omega),← List.take_succ_eq_append_getElem hi']
  exact next hi' _ rfl
 ·simp only [CQ] at hh
  have:i=es.length:=by omega
  subst this
  rw [List.take_length]
  exact ZH rfl
theorem ZjW {es:List Ep} {o:Int} (h:∀ e∈es,e.o≠o):ZbL (Zjv es) o [AV.val (.int .i64 0)] = [[AV.val (.int .i64 0),AV.val (.bool false)]]:=by
 have hf:(JC (Zjv es)).find? (fun r=>ZT r == some o)=none:=by
  rw [List.find?_eq_none]
  intro r hr
  obtain ⟨p,hp,rfl⟩:=List.mem_map.1 (show r∈es.zipIdx.map iv from hr)
  show ¬ ((some p.1.o == some o)=true)
  intro e
  have e':p.1.o=o:=by simpa using e
  exact h _ (List.fst_mem_of_mem_zipIdx hp) e'
 unfold ZbL
 rw [hf]
 rfl
theorem Zd8 {es:List Ep} {k:Nat} (hk:k < es.length) (ho:es.Pairwise fun a b=>a.o < b.o):ZbL (Zjv es) es[k].o [AV.val (.int .i64 0)] = [[AV.val (.int .i64 (k:Int)),AV.val (.bool true)]]:=by
 have hf:(JC (Zjv es)).find? (fun r=>ZT r == some es[k].o)=some (iv (es[k],k)):=by
  show (es.zipIdx.map iv).find? _=_
  rw [List.find?_eq_some_iff_getElem]
  refine ⟨?_,k,by simpa using hk,by simp,fun j hj=>?_⟩
  ·show (some es[k].o == some es[k].o)=true
   simp
  ·have hj':j < es.length:=by omega
   have:((es.zipIdx.map iv)[j]'(by simpa using hj'))=iv (es[j],j):=by simp
   rw [this]
   have:=List.pairwise_iff_getElem.1 ho j k hj' hk hj
   show (!(some es[j].o == some es[k].o))=true
   simp
   omega
 unfold ZbL
 rw [hf]
 rfl
theorem WA {γ:Type} {L:LL} {z:Int} {b:Bool} (h:L = [[AV.val (.int .i64 z),AV.val (.bool b)]]) (k:Int×Bool→Option γ):Jk L 0 [.int .i64,.bool] k=k (z,b):=by
 subst h
 exact Y1 (sh:=[.int .i64,.bool]) k (by decide) (cs:=[AV.val (.int .i64 z),AV.val (.bool b)]) rfl rfl
theorem Vld.few {n:Int} {es:List Ep} (h:Vld n es):∀ e∈es,e.q.length < 1000∧e.s.length < 1000∧(∀ m∈e.q,m.w.length < 1000)∧∀ m∈e.s,m.w.length < 1000:=fun e he=>by
 have:=h.ok e he
 refine ⟨by have:=this.ql;omega,by have:=this.sl;omega,fun m hm=>?_,fun m hm=>?_⟩
 ·have:=(this.qm m hm).2.2.2.1;omega
 ·have:=(this.sm m hm).1.2.2.2.1;omega
theorem Zdw (es:List Ep) (k:Nat) (e:Ep) {R:List AV} (h:R.map ZaK=ec e):WZ ((es.map en).set k R)=(es.set k e).map ec:=by
 unfold WZ
 rw [List.map_set,h,List.map_set]
 congr 1
 exact ZmX es
theorem Zmi {es:List Ep} {k:Nat} (hk:k < es.length):(es.map en)[k]? = some (en es[k]):=by
 rw [List.getElem?_map,List.getElem?_eq_getElem hk];rfl
theorem Wd {L:LL} {k:Nat} {R:List AV} (hk:k < L.length):(L.set k R)[k]? = some R:=by
 rw [List.getElem?_set];simp [hk]
theorem Zfu {L:LL} {k o s:Nat} {e:TypeId} {r:List AV} {ys:LL} (h:L[k]? = some r) (h2:r[o]? = some (.nest s true e ys)):qop (.nst o s e) L (k:Int)=true:=by
 simp [qop,h,h2]
theorem Zgk {P:Int×LL×Int→Prop} (N:Int) (es:List Ep) (k:Nat) (hk:k < es.length) (m:Ms) (hq:es[k].q.length≤100) (h:P (N,(es.set k { es[k] with q:=es[k].q++[m] }).map ec,0)) :
  Ret P (ZF ((0:Int)≤(k:Int))<|ZF ((k:Int) < (List.length (es.map en):Int))<|ZF ((0:Int)≤(k:Int))<|ZF (qop (.nst 2 4 41) (es.map en) (k:Int)=true)<|
   ZF (YL (VK (es.map en) (Int.toNat (k:Int)) 2) (E0++[mc m]) 48)<|ZF ((0:Int)≤(k:Int))<|
   ZF ((k:Int) < (List.length (JZ (es.map en) (Int.toNat (k:Int)) 2 (AV.nest 4 false 41 E0)):Int))<|ZF ((0:Int)≤(k:Int))<|
   ZF ((k:Int) < (List.length (JZ (es.map en) (Int.toNat (k:Int)) 2 (AV.nest 4 false 41 E0)):Int))<|
   some (N,WZ (JZ (JZ (es.map en) (Int.toNat (k:Int)) 2 (AV.nest 4 false 41 E0)) (Int.toNat (k:Int)) 2 (AV.nest 4 true 41 ((VK (es.map en) (Int.toNat (k:Int)) 2)++(E0++[mc m])))),0)):=by
 have hat:=Zmi hk
 have hlen:k < (es.map en).length:=by simpa using hk
 have hg:VK (es.map en) k 2=es[k].q.map mc:=by
  unfold VK
  rw [hat]
  rfl
 have hp1:JZ (es.map en) k 2 (AV.nest 4 false 41 E0)=(es.map en).set k [I es[k].o,I es[k].v,.nest 4 false 41 [],.nest 4 true 41 (es[k].s.map mc)]:=YU hat
 have hp2:JZ ((es.map en).set k [I es[k].o,I es[k].v,.nest 4 false 41 [],.nest 4 true 41 (es[k].s.map mc)]) k 2 (AV.nest 4 true 41 ((es[k].q++[m]).map mc)) =
   (es.map en).set k (en { es[k] with q:=es[k].q++[m] }):=by
  have:JZ ((es.map en).set k [I es[k].o,I es[k].v,.nest 4 false 41 [],.nest 4 true 41 (es[k].s.map mc)]) k 2 (AV.nest 4 true 41 ((es[k].q++[m]).map mc))=((es.map en).set k _).set k (en { es[k] with q:=es[k].q++[m] }):=YU (Wd hlen)
  rw [this,List.set_set]
 have r1:(0:Int)≤(k:Int):=Int.natCast_nonneg k
 have r2:(k:Int) < (List.length (es.map en):Int):=by omega
 have hm:es[k].q.map mc++(E0++[mc m])=(es[k].q++[m]).map mc:=by simp
 rw [Int.toNat_natCast,hg,hm,hp1,hp2,List.length_set]
 refine Zn r1 (Zn r2 (Zn r1 (Zn ?_ (Zn (JU (by simp;omega) (by decide)) (Zn r1 (Zn r2 (Zn r1 (Zn r2 ?_))))))))
 ·exact Zfu hat rfl
 ·rw [Zdw es k { es[k] with q:=es[k].q++[m] } rfl]
  exact ZH h
theorem s13 (n:Int) (es:List Ep) (h:Vld n es) (k:Nat) (hk:k < es.length) (c:Int) (w:LL) (s:Int) (hm:Ze3 ⟨0,c,w,s⟩) (hq:es[k].q.length < 8) :
  g13 n (es.map ec) es[k].o c w s=some (n,(es.set k { es[k] with q:=es[k].q++[⟨0,c,w,s⟩] }).map ec,0):=by
 refine JT ?_
 rw [ZmJ]
 refine Zda (Q:=fun r=>r=(n,(es.set k { es[k] with q:=es[k].q++[⟨0,c,w,s⟩] }).map ec,0)) ?_ fun r hr=>ZH (by rw [hr])
 rw [ZiX]
 have hlen:=h.len
 refine Za (s22 n es h) (Zb (fun h=>by cases h) fun _=>Za (s69 ⟨0,c,w,s⟩ hm) (Zb (fun h=>by cases h) fun _=>Za (s39 n es (by omega) h.ord) (Zn rfl ?_)))
 refine Zy (WA (Zd8 hk h.ord) _) (Zb (fun h=>by cases h) fun _=>Zy (YS hk _) (Zb (fun h8=>?_) fun _=>Zb (fun h=>by cases h) fun _=>Zb (fun h=>by cases h) fun _=>?_))
 ·simp only [CQ,ev,List.length_map] at h8;omega
 refine Za (s40 n es (by omega) h.few) (Zb (fun h=>by cases h) fun _=>Za (s43 w (by have:=hm.2.2.2.1;simp only at this;omega)) ?_)
 exact Zgk n es k hk ⟨0,c,w,s⟩ (by omega) rfl
theorem s12 (n:Int) (es:List Ep) (h:Vld n es) (k:Nat) (hk:k < es.length) (c:Int) (w:LL) (s:Int) (hm:Ze3 ⟨0,c,w,s⟩) (hq:es[k].q.length < 8) (hv:es[k].v≠c) (hn:n < 1099511627776) :
  g12 n (es.map ec) es[k].o c w s=some (n+1,(es.set k { es[k] with q:=es[k].q++[⟨n+1,c,w,s⟩] }).map ec,n+1,0):=by
 refine JT ?_
 have hn0:=h.n0
 have hadd:iop .add .i64 n 1=n+1:=Zi4 (by omega) (by omega)
 rw [Zlh]
 refine Zda (Q:=fun r=>r=(n+1,(es.set k { es[k] with q:=es[k].q++[⟨n+1,c,w,s⟩] }).map ec,0)) ?_ fun r hr=>ZH (by rw [hr])
 rw [ZiX]
 have hlen:=h.len
 refine Za (s22 n es h) (Zb (fun h=>by cases h) fun _=>Za (s69 ⟨0,c,w,s⟩ hm) (Zb (fun h=>by cases h) fun _=>Za (s39 n es (by omega) h.ord) (Zn rfl ?_)))
 refine Zy (WA (Zd8 hk h.ord) _) (Zb (fun h=>by cases h) fun _=>Zy (YS hk _) (Zb (fun h8=>?_) fun _=>Zb (fun _=>?_) fun h=>(h rfl).elim))
 ·simp only [CQ,ev,List.length_map] at h8;omega
 refine Zy (YS hk _) (Zb (fun hb=>?_) fun _=>Zb (fun _=>Zb (fun hb=>?_) fun _=>?_) fun h=>(h rfl).elim)
 ·simp only [CQ,ev] at hb;exact (hv hb).elim
 ·simp only [CQ] at hb;omega
 refine Za (s40 n es (by omega) h.few) (Zb (fun _=>Za (s43 w (by have:=hm.2.2.2.1;simp only at this;omega)) ?_) fun h=>(h rfl).elim)
 rw [show iop .add .i64 (n,es.map en).1 1=n+1 from hadd]
 exact Zgk (n+1) es k hk ⟨n+1,c,w,s⟩ (by omega) rfl
def ZbP (e:Ep) (m:Ms) (q:List Ms):Ep:=if 0 < m.t then { e with q:=q,s:=e.s++[m] } else { e with q:=q }
theorem s14 (n:Int) (es:List Ep) (h:Vld n es) (k:Nat) (hk:k < es.length) (m:Ms) (q:List Ms) (hq:es[k].q=m::q) :
  g14 n (es.map ec) es[k].o es[k].v=some (n,(es.set k (ZbP es[k] m q)).map ec,m.t,m.c,m.w,m.s,0):=by
 refine JT ?_
 have hlen:=h.len
 have hat:=Zmi hk
 have hlk:k < (es.map en).length:=by simpa using hk
 have hok:=h.ok _ (List.getElem_mem hk)
 have hmok:Ze3 m:=hok.qm m (by rw [hq];simp)
 have r1:(0:Int)≤(k:Int):=Int.natCast_nonneg k
 have r2:(k:Int) < (List.length (es.map en):Int):=by omega
 rw [Zk4]
 refine Za (s22 n es h) (Zb (fun h=>by cases h) fun _=>Za (s39 n es (by omega) h.ord) (Zn rfl ?_))
 refine Zy (WA (Zd8 hk h.ord) _) (Zb (fun h=>by cases h) fun _=>Zy (YS hk _) (Zb (fun h8=>?_) fun _=>Zy (YS hk _) (Zb (fun h8=>?_) fun _=>?_)))
 ·simp only [CQ,ev] at h8;exact (h8 rfl).elim
 ·simp only [CQ,ev,List.length_map,hq,List.length_cons] at h8;omega
 refine Za (s40 n es (by omega) h.few) ?_
 obtain ⟨R1,hR1⟩:∃ R:List AV,R = [I es[k].o,I es[k].v,.slice false 4 (es[k].q.map mc),.nest 4 true 41 (es[k].s.map mc)]:=⟨_,rfl⟩
 obtain ⟨R2,hR2⟩:∃ R:List AV,R = [I es[k].o,I es[k].v,.slice false 4 (q.map mc),.nest 4 true 41 (es[k].s.map mc)]:=⟨_,rfl⟩
 obtain ⟨R3,hR3⟩:∃ R:List AV,R = [I es[k].o,I es[k].v,.slice false 4 (q.map mc),.nest 4 false 41 []]:=⟨_,rfl⟩
 have hf1:KK (es.map en) k 2 1=(es.map en).set k R1:=by rw [hR1];exact YU hat
 have hf2:KK ((es.map en).set k R1) k 2 1=(es.map en).set k R1:=Zf5 (Wd hlk) (by rw [hR1];rfl)
 have hel:∀ {γ:Type} (f:LL→Option γ),Jk (Zjw ((es.map en).set k R1) 2 1) (k:Int) [.slice 4] f=f (es[k].q.map mc):=fun f=>Y1 (sh:=[.slice 4]) f r1 (cs:=[.slice false 4 (es[k].q.map mc)]) (by
  rw [Int.toNat_natCast]
  unfold Zjw
  rw [List.getElem?_map,Wd hlk,hR1]
  rfl) rfl
 have hse:ZD ((es.map en).set k R1) k 2 [AV.slice false 4 (q.map mc)]=(es.map en).set k R2:=by
  have hb:((es.map en).set k R1)[k]? = some R1:=Wd hlk
  have:ZD ((es.map en).set k R1) k 2 [AV.slice false 4 (q.map mc)]=((es.map en).set k R1).set k (setCells R1 2 [AV.slice false 4 (q.map mc)]):=YU hb
  rw [this,List.set_set,hR1,hR2]
  rfl
 have hdrop:List.drop (Int.toNat 1) (es[k].q.map mc)=q.map mc:=by rw [hq];rfl
 have hqm:es[k].q.map mc=mc m::q.map mc:=by rw [hq];rfl
 have hqop:qop (.nst 3 4 41) ((es.map en).set k R2) (k:Int)=true:=Zfu (Wd hlk) (by rw [hR2];rfl)
 have hg3:VK ((es.map en).set k R2) k 3=es[k].s.map mc:=by
  unfold VK
  rw [Wd hlk,hR2]
  rfl
 have hp3:JZ ((es.map en).set k R2) k 3 (AV.nest 4 false 41 E0)=(es.map en).set k R3:=by
  have:JZ ((es.map en).set k R2) k 3 (AV.nest 4 false 41 E0)=((es.map en).set k R2).set k (setCells R2 3 [AV.nest 4 false 41 E0]):=YU (Wd hlk)
  rw [this,List.set_set,hR2,hR3]
  rfl
 have hp4:JZ ((es.map en).set k R3) k 3 (AV.nest 4 true 41 ((es[k].s++[m]).map mc))=(es.map en).set k [I es[k].o,I es[k].v,.slice false 4 (q.map mc),.nest 4 true 41 ((es[k].s++[m]).map mc)]:=by
  have:JZ ((es.map en).set k R3) k 3 (AV.nest 4 true 41 ((es[k].s++[m]).map mc))=((es.map en).set k R3).set k (setCells R3 3 [AV.nest 4 true 41 ((es[k].s++[m]).map mc)]):=YU (Wd hlk)
  rw [this,List.set_set,hR3]
  rfl
 have hsm:es[k].s.map mc++(E0++[mc m])=(es[k].s++[m]).map mc:=by simp
 have r3:∀ R,(k:Int) < (((es.map en).set k R).length:Int):=fun R=>by rw [List.length_set];omega
 rw [Int.toNat_natCast,hf1,hf2]
 refine Zn r1 (Zn r2 (Zy (hel _) (Zy (Y1 (sh:=[.int .i64,.int .i64,.slice 1,.int .i64]) (r:=mv m) (cs:=mc m) _ (by decide) (by rw [hqm];rfl) rfl) (Zy (hel _) (Zn (by decide) (Zn (by rw [hqm,List.length_cons];omega) (Zn r1 (Zn (r3 _) ?_))))))))
 rw [hdrop,hse]
 refine Zb (fun ht=>?_) fun ht=>?_
 ·simp only [CQ,mv] at ht
  refine Zn r1 (Zn hqop (Zn (JU ?_ (by decide)) (Zn r1 (Zn ?_ (Za (s43 m.w (by have:=hmok.2.2.2.1;omega)) (ZH ?_))))))
  ·rw [hg3];have:=hok.sl;simp;omega
  ·rw [hp3];exact r3 _
  ·rw [hg3,hp3,show ([AV.val (.int .i64 (mv m).1),AV.val (.int .i64 (mv m).2.1),AV.slice false 1 (mv m).2.2.1,AV.val (.int .i64 (mv m).2.2.2)] : List AV)=mc m from rfl,hsm,hp4,Zdw es k (ZbP es[k] m q) (by unfold ZbP;rw [if_pos ht];rfl)]
   rfl
 ·simp only [CQ,mv] at ht
  refine ZH ?_
  rw [Zdw es k (ZbP es[k] m q) (by unfold ZbP;rw [if_neg (by omega),hR2];rfl)]
  rfl
end Go.Proofs.Ytigknndkmlhmfaa
end

section
namespace Go.Proofs.Ytigknndkmlhmfaa
open Go Go.AM
set_option linter.unusedSimpArgs false
set_option linter.unusedVariables false
set_option maxRecDepth 100000
theorem Zb8 (a b:List Ms):tk (a++b)=tk a++tk b:=by
 unfold tk;rw [List.map_append,List.filter_append]
theorem ZkU {α:Type} {l:List α} {k:Nat} (h:k < l.length):l=l.take k++l[k]::l.drop (k+1):=by
 rw [← List.drop_eq_getElem_cons h,List.take_append_drop]
theorem Zjt {α:Type} {l:List α} {k:Nat} (h:k < l.length) (a:α):l.set k a=l.take k++a::l.drop (k+1):=List.set_eq_take_append_cons_drop ▸ by rw [if_pos h]
theorem Zls {es:List Ep} {k:Nat} (hk:k < es.length) (e:Ep) {r:List Int} (hp:(tk (e.q++e.s)).Perm (tk (es[k].q++es[k].s)++r)):(tkE (es.set k e)).Perm (tkE es++r):=by
 rw [Zjt hk]
 have h2:tkE es=tkE (es.take k)++(tk (es[k].q++es[k].s)++tkE (es.drop (k+1))):=by
  refine (congrArg tkE (ZkU hk)).trans ?_
  unfold tkE
  rw [List.flatMap_append,List.flatMap_cons]
 rw [h2]
 have h3:tkE (es.take k++e::es.drop (k+1))=tkE (es.take k)++(tk (e.q++e.s)++tkE (es.drop (k+1))):=by simp [tkE]
 rw [h3,List.append_assoc,List.append_assoc]
 refine List.Perm.append_left _ ?_
 refine (hp.append_right _).trans ?_
 rw [List.append_assoc]
 exact List.Perm.append_left _ List.perm_append_comm
theorem Zdt {n n':Int} {es:List Ep} (h:Vld n es) {k:Nat} (hk:k < es.length) {e:Ep} {r:List Int} (he:Zn5 e) (ho:e.o=es[k].o) (h1:n≤n') (h2:n'≤1099511627776)
  (hp:(tk (e.q++e.s)).Perm (tk (es[k].q++es[k].s)++r)) (hr:∀ t∈r,n < t∧t≤n') (hnd:r.Nodup):Vld n' (es.set k e):=by
 have hn0:=h.n0
 have hperm:=Zls hk e hp
 refine ⟨by omega,h2,by rw [List.length_set];exact h.len,fun x hx=>?_,?_,?_,fun t ht=>?_⟩
 ·rcases List.mem_or_eq_of_mem_set hx with hx | rfl
  ·exact h.ok x hx
  ·exact he
 ·have hm:(es.set k e).map Ep.o=es.map Ep.o:=by
   rw [List.map_set,ho]
   apply List.ext_getElem?
   intro j
   rw [List.getElem?_set]
   by_cases hj:k=j
   ·subst hj;simp [hk]
   ·simp [hj]
  have h3:=List.pairwise_map.2 h.ord
  rw [← hm] at h3
  exact List.pairwise_map.1 h3
 ·refine (List.Perm.nodup_iff hperm).2 (List.nodup_append.2 ⟨h.nd,hnd,fun a ha b hb hab=>?_⟩)
  have:=h.le a ha
  have:=(hr b hb).1
  omega
 ·rcases List.mem_append.1 (hperm.mem_iff.1 ht) with ht | ht
  ·have:=h.le t ht;omega
  ·exact (hr t ht).2
theorem ZjZ {n:Int} {es:List Ep} (h:Vld n es) {k:Nat} (hk:k < es.length) {m:Ms} (hm:Ze3 m) (h0:m.t=0) (hq:es[k].q.length < 8):Vld n (es.set k { es[k] with q:=es[k].q++[m] }):=by
 have hok:=h.ok _ (List.getElem_mem hk)
 refine Zdt (r:=[]) h hk ⟨hok.o0,hok.o1,hok.v0,hok.v1,by simp;omega,hok.sl,fun x hx=>?_,hok.sm⟩ rfl (Int.le_refl _) h.n1 ?_ (fun t ht=>by cases ht) List.nodup_nil
 ·rcases List.mem_append.1 hx with hx | hx
  ·exact hok.qm x hx
  ·rw [List.mem_singleton] at hx;subst hx;exact hm
 ·have:tk [m] = []:=by simp [tk,h0]
  simp only [Zb8,this,List.append_nil]
  exact List.Perm.refl _
theorem Zkj {n:Int} {es:List Ep} (h:Vld n es) {k:Nat} (hk:k < es.length) {m:Ms} (hm:Ze3 m) (h0:m.t=n+1) (hn:n < 1099511627776) (hq:es[k].q.length < 8):Vld (n+1) (es.set k { es[k] with q:=es[k].q++[m] }):=by
 have hok:=h.ok _ (List.getElem_mem hk)
 have hn0:=h.n0
 refine Zdt (r:=[n+1]) h hk ⟨hok.o0,hok.o1,hok.v0,hok.v1,by simp;omega,hok.sl,fun x hx=>?_,hok.sm⟩ rfl (by omega) (by omega) ?_ (fun t ht=>?_) (by simp)
 ·rcases List.mem_append.1 hx with hx | hx
  ·exact hok.qm x hx
  ·rw [List.mem_singleton] at hx;subst hx;exact hm
 ·have:tk [m] = [n+1]:=by simp [tk,h0];omega
  simp only [Zb8,this,List.append_assoc]
  exact List.Perm.append_left _ List.perm_append_comm
 ·rw [List.mem_singleton] at ht;omega
theorem ZjT {n:Int} {es:List Ep} (h:Vld n es) {k:Nat} (hk:k < es.length) {m:Ms} {q:List Ms} (hq:es[k].q=m::q) (hs:es[k].s.length < 400):Vld n (es.set k (ZbP es[k] m q)):=by
 have hok:=h.ok _ (List.getElem_mem hk)
 have hql:=hok.ql
 rw [hq] at hql
 have hm:Ze3 m:=hok.qm m (by rw [hq];simp)
 have hqm:∀ x∈q,Ze3 x:=fun x hx=>hok.qm x (by rw [hq];simp [hx])
 have h0:=hm.1
 unfold ZbP
 split
 ·rename_i ht
  refine Zdt (r:=[]) h hk ⟨hok.o0,hok.o1,hok.v0,hok.v1,by simp at hql ⊢; omega,by simp;omega,hqm,fun x hx=>?_⟩ rfl (Int.le_refl _) h.n1 ?_ (fun t ht=>by cases ht) List.nodup_nil
  ·rcases List.mem_append.1 hx with hx | hx
   ·exact hok.sm x hx
   ·rw [List.mem_singleton] at hx;subst hx;exact ⟨hm,by omega⟩
  ·rw [hq]
   have:tk (m::q)=tk [m]++tk q:=Zb8 [m] q
   simp only [Zb8,this,List.append_nil]
   rw [List.append_assoc,← List.append_assoc]
   exact List.perm_append_comm
 ·rename_i ht
  refine Zdt (r:=[]) h hk ⟨hok.o0,hok.o1,hok.v0,hok.v1,by simp at hql ⊢; omega,hok.sl,hqm,hok.sm⟩ rfl (Int.le_refl _) h.n1 ?_ (fun t ht=>by cases ht) List.nodup_nil
  rw [hq]
  have h2:tk [m] = []:=by
   have:m.t=0:=by omega
   simp [tk,this]
  have:tk (m::q)=tk [m]++tk q:=Zb8 [m] q
  simp only [Zb8,this,h2,List.append_nil,List.nil_append]
  exact List.Perm.refl _
theorem Zl1:Vld 0 []:=⟨by decide,by decide,by decide,(fun e he=>by cases he),List.Pairwise.nil,List.nodup_nil,(fun t ht=>by cases ht)⟩
theorem Zl8 {o v:Int} (h1:0≤o) (h2:o≤1099511627775) (h3:0≤v) (h4:v < 32):Vld 0 [⟨o,v,[],[]⟩]:=
 ⟨by decide,by decide,by simp,fun e he=>by
  rw [List.mem_singleton] at he
  subst he
  exact ⟨h1,h2,h3,h4,by simp,by simp,(fun m hm=>by cases hm),(fun m hm=>by cases hm)⟩,List.pairwise_singleton _ _,by simp [tkE,tk],fun t ht=>by simp [tkE,tk] at ht⟩
theorem s9 (o v:Int) (h1:0≤o) (h2:o≤1099511627775) (h3:0≤v) (h4:v < 32):g9 0 E0 o v=some (0,([⟨o,v,[],[]⟩] : List Ep).map ec,0):=by
 refine JT ?_
 rw [Zn1]
 refine Za (s22 0 [] Zl1) (Zb (fun h=>by cases h) fun _=>Za (s37 o h1 h2) (Zb (fun h=>by cases h) fun _=>Za (s38 v h3 h4) (Zb (fun h=>by cases h) fun _=>Za (s39 0 [] (by decide) List.Pairwise.nil) (Zn rfl ?_))))
 refine Zy (WA (ZjW (es:=[]) fun e he=>by cases he) _) (Zb (fun h=>by cases h) fun _=>Zb (fun h=>by cases h) fun _=>?_)
 obtain ⟨f,hf⟩:=Znx
 rw [hf]
 refine Zy (Zmn ..) (Zb (fun h=>by cases h) fun _=>Za (s40 0 [] (by decide) fun e he=>by cases he) ?_)
 refine Za (a:=[ec ⟨o,v,[],[]⟩]) ?_ (ZH rfl)
 rw [Zm5]
 unfold Zoe
 rw [JN (by decide),JN (by decide),JN (by simp),JN (JU (by simp [WZ]) (by decide))]
 rfl
end Go.Proofs.Ytigknndkmlhmfaa
end

section
namespace Go.Proofs.Ytigknndkmlhmfaa
open Go Go.AM
set_option linter.unusedSimpArgs false
set_option linter.unusedVariables false
set_option maxRecDepth 100000
theorem s8:g8=some true:=by kernel_rfl
def S (o v:Int) (q s:List Ms):List Ep:=[⟨o,v,q,s⟩]
theorem ZiN {c:Int} {w:LL} {s:Int} (t:Int) (h0:0≤t) (h1:0≤c) (h2:c < 32) (h3:w.length≤8) (h4 : -1≤s) (h5:s < 64):Ze3 ⟨t,c,w,s⟩:=⟨h0,h1,h2,h3,h4,h5⟩
theorem Zj1 {n o v:Int} {q s:List Ms} (h:Vld n (S o v q s)) {c:Int} {w:LL} {sl:Int} (hm:Ze3 ⟨0,c,w,sl⟩) (hq:q.length < 8) :
  g13 n ((S o v q s).map ec) o c w sl=some (n,(S o v (q++[⟨0,c,w,sl⟩]) s).map ec,0)∧Vld n (S o v (q++[⟨0,c,w,sl⟩]) s):=
 ⟨s13 n (S o v q s) h 0 (by simp [S]) c w sl hm hq,ZjZ h (k:=0) (by simp [S]) hm rfl hq⟩
theorem ZkR {n o v:Int} {q s:List Ms} (h:Vld n (S o v q s)) {c:Int} {w:LL} {sl:Int} (hm:Ze3 ⟨0,c,w,sl⟩) (hq:q.length < 8) (hv:v≠c) (hn:n < 1099511627776) :
  g12 n ((S o v q s).map ec) o c w sl=some (n+1,(S o v (q++[⟨n+1,c,w,sl⟩]) s).map ec,n+1,0)∧Vld (n+1) (S o v (q++[⟨n+1,c,w,sl⟩]) s):=
 ⟨s12 n (S o v q s) h 0 (by simp [S]) c w sl hm hq hv hn,Zkj h (k:=0) (by simp [S]) (m:=⟨n+1,c,w,sl⟩) (by have:=h.n0;obtain ⟨_,h2,h3,h4,h5,h6⟩:=hm;exact ⟨by show 0≤n+1;omega,h2,h3,h4,h5,h6⟩) rfl hn hq⟩
theorem ZkE {n o v:Int} {m:Ms} {q s:List Ms} (h:Vld n (S o v (m::q) s)) (hs:s.length < 400) :
  g14 n ((S o v (m::q) s).map ec) o v=some (n,(S o v q (if 0 < m.t then s++[m] else s)).map ec,m.t,m.c,m.w,m.s,0)∧Vld n (S o v q (if 0 < m.t then s++[m] else s)):=by
 have h1:=s14 n (S o v (m::q) s) h 0 (by simp [S]) m q rfl
 have h2:=ZjT h (k:=0) (by simp [S]) (m:=m) (q:=q) rfl hs
 have h3:(S o v (m::q) s).set 0 (ZbP ((S o v (m::q) s)[0]'(by simp [S])) m q)=S o v q (if 0 < m.t then s++[m] else s):=by
  show [ZbP ⟨o,v,m::q,s⟩ m q]=_
  unfold ZbP S
  split<;>rfl
 rw [h3] at h1 h2
 exact ⟨h1,h2⟩
theorem s10:g10=some (0,E0):=Zm4
theorem Zmo {o v:Int} (h1:0≤o) (h2:o≤1099511627775) (h3:0≤v) (h4:v < 32):g9 0 E0 o v=some (0,(S o v [] []).map ec,0)∧Vld 0 (S o v [] []):=⟨s9 o v h1 h2 h3 h4,Zl8 h1 h2 h3 h4⟩
end Go.Proofs.Ytigknndkmlhmfaa
end

section
namespace Go.Proofs.Ytigknndkmlhmfaa
open Go Go.AM
set_option linter.unusedSimpArgs false
set_option linter.unusedVariables false
set_option maxRecDepth 100000
end Go.Proofs.Ytigknndkmlhmfaa
end

section
namespace Go.Proofs.Ytigknndkmlhmfaa
open Go Go.AM
set_option linter.unusedVariables false
set_option maxRecDepth 100000
noncomputable def F45.S:Fun:=ZeY
theorem ZoO:F45.S.Ok Try.prog 45:=ZfX ⟨Try.f45,Try.func45,by kernel_rfl,by kernel_rfl⟩ ZhA
noncomputable def g45 (x0:LL):Option Unit:=F45.S.g [.l x0]
theorem Znn (x0:LL):g45 x0=ZhL x0:=rfl
noncomputable def F16:Fn:=⟨50,[4],[(5,[(1,.c (.int .i64)),(5,.c (.own false 3)),(14,.c (.slice 4)),(15,.c (.int .i64)),(16,.c (.int .i64))]),(8,[(1,.c (.int .i64)),(5,.c (.own false 3)),(14,.c (.slice 4)),(15,.c (.int .i64)),(16,.c (.int .i64)),(25,.c (.own true 41)),(26,.c (.int .i64)),(27,.c (.int .i64))])],[],0,[],[],Try.f16,[.agg [.int .i64,.slice 4],.c (.int .i64)],[.c (.slice 1)],[(22,F22.S),(44,F44.S),(45,F45.S)]⟩
theorem Zoy:F16.S.Ok Try.prog 16:=F16.ok Try.func16 (by kernel_rfl) ⟨Zmu,⟨Zou,⟨ZoO,trivial⟩⟩⟩
noncomputable def g16 (x0:Int) (x1:LL) (x2:Int):Option (LL):=F16.S.g [.i x0,.l x1,.i x2]
noncomputable def ZfS (rec0:List V→Option (LL)) (k:Nat) (x0:Int) (x1:LL) (x2:LL) (x3:Int) (x4:Int) (x5:LL) (x6:Int) (x7:Int):Option (LL):=F16.lp [0,1,2,3] 1 (ZlV r0 0 rec0) k [.i x0,.l x1,.l x2,.i x3,.i x4,.l x5,.i x6,.i x7]
theorem ZjY (rec0:List V→Option (LL)) (k:Nat) (x0:Int) (x1:LL) (x2:LL) (x3:Int) (x4:Int) (x5:LL) (x6:Int) (x7:Int):ZfS rec0 (k+1) x0 x1 x2 x3 x4 x5 x6 x7 =
 (if (cop .lss x7 x6)=true then
 ZF ((0:Int)≤x7)<|
 ZF ((x7:Int) < (List.length x5:Int))<|
 Jk x5 x7 [.int .i64,.int .i64,.slice 1,.int .i64] fun (r8:Int×Int×LL×Int)=>
 if (cop .eql r8.2.1 x0)=true then
 if (cop .gtr r8.1 0)=true then
 ZF (YL x1 (E0++[[AV.val (.int .i64 r8.1)]]) 8)<|
 ZfS rec0 k x0 (x1++(E0++[[AV.val (.int .i64 r8.1)]])) x2 x3 x4 x5 x6 (iop .add .i64 x7 1)
 else
 ZfS rec0 k x0 x1 x2 x3 x4 x5 x6 (iop .add .i64 x7 1)
 else
 ZfS rec0 k x0 x1 x2 x3 x4 x5 x6 (iop .add .i64 x7 1)
 else
 rec0 [.i x0,.l x1,.l x2,.i x3,.i (iop .add .i64 x4 1)]):=by kernel_rfl
noncomputable def Zmr (k:Nat) (x0:Int) (x1:LL) (x2:LL) (x3:Int) (x4:Int):Option (LL):=F16.lp [0,1,0] 0 r0 k [.i x0,.l x1,.l x2,.i x3,.i x4]
theorem Zj2 (k:Nat) (x0:Int) (x1:LL) (x2:LL) (x3:Int) (x4:Int):Zmr (k+1) x0 x1 x2 x3 x4 =
 (if (cop .lss x4 x3)=true then
 Jk x2 x4 [.int .i64,.int .i64,.slice 4,.slice 4] fun (r5:Int×Int×LL×LL)=>
 (g44 ((E0++[[AV.slice false 4 r5.2.2.1]])++[[AV.slice false 4 r5.2.2.2]])).bind fun (r9:LL)=>
 ZfS (F16.lp [0,1,0] 0 r0 k) VP x0 x1 x2 x3 x4 r9 (List.length r9:Int) 0
 else
 (g45 x1).bind fun (r5:Unit)=>
 some (x1)):=by kernel_rfl
theorem ZmS (x0:Int) (x1:LL) (x2:Int):g16 x0 x1 x2 =
 ((g22 x0 x1).bind fun (r3:Bool)=>
 if (!r3)=true then
 some (E0)
 else
 Zmr VP x2 E0 x1 (List.length x1:Int) 0):=by kernel_rfl
end Go.Proofs.Ytigknndkmlhmfaa
end

section
namespace Go.Proofs.Ytigknndkmlhmfaa
open Go Go.AM
set_option linter.unusedVariables false
set_option maxRecDepth 100000
noncomputable def F5:Fn:=⟨158,[6],[],[],0,[],[],Try.f5,[.c (.int .i64),.c (.int .i64),.c (.int .u64)],[.c (.bool)],[(15,F15.S),(10,F10.S),(9,F9.S),(12,F12.S),(13,F13.S),(16,F16.S),(8,F8.S),(14,F14.S),(17,F17.S)]⟩
theorem ok5:F5.S.Ok Try.prog 5:=F5.ok Try.func5 (by kernel_rfl) ⟨ZoG,⟨Zot,⟨ok9,⟨Zog,⟨ZoT,⟨Zoy,⟨ok8,⟨Zoh,⟨Zor,trivial⟩⟩⟩⟩⟩⟩⟩⟩⟩
noncomputable def g5 (x0:Int) (x1:Int) (x2:Int):Option (Bool):=F5.S.g [.i x0,.i x1,.i x2]
theorem ZnY (x0:Int) (x1:Int) (x2:Int):g5 x0 x1 x2 =
 ((g15 x0 32).bind fun (r3:Int)=>
 (g15 x1 32).bind fun (r4:Int)=>
 (g10).bind fun (r5:Int×LL)=>
 (g9 r5.1 r5.2 0 r3).bind fun (r7:Int×LL×Int)=>
 (g12 r7.1 r7.2.1 0 r3 (E0++[[AV.val (.int .u64 x2)]]) (-1)).bind fun (r10:Int×LL×Int×Int)=>
 (g13 r7.1 r7.2.1 0 r3 (E0++[[AV.val (.int .u64 x2)]]) (-1)).bind fun (r14:Int×LL×Int)=>
 if (cop .neq r7.2.2 0)=true then
 some (false)
 else
 if (cop .neq r10.2.2.2 4)=true then
 some (false)
 else
 if (cop .neq r14.2.2 0)=true then
 some (false)
 else
 (g16 r14.1 r14.2.1 r3).bind fun (r17:LL)=>
 if (cop .neq (List.length r17:Int) 0)=true then
 some (false)
 else
 if (cop .eql r3 r4)=true then
 (g8).bind fun (r18:Bool)=>
 some (r18)
 else
 (g12 r7.1 r7.2.1 0 r4 (E0++[[AV.val (.int .u64 x2)]]) (-1)).bind fun (r18:Int×LL×Int×Int)=>
 (g14 r18.1 r18.2.1 0 r4).bind fun (r22:Int×LL×Int×Int×LL×Int×Int)=>
 (g17 r18.1 r18.2.1 r18.2.2.1 r3 E0).bind fun (r29:Int×LL×Int×Int×Int×LL×Int)=>
 (g14 r18.1 r18.2.1 0 r3).bind fun (r36:Int×LL×Int×Int×LL×Int×Int)=>
 (g17 r36.1 r36.2.1 r18.2.2.1 r4 E0).bind fun (r43:Int×LL×Int×Int×Int×LL×Int)=>
 (g17 r36.1 r36.2.1 r18.2.2.1 r3 E0).bind fun (r50:Int×LL×Int×Int×Int×LL×Int)=>
 if (cop .eql r18.2.2.2 0)=true then
 if (cop .eql r22.2.2.2.2.2.2 8)=true then
 if (cop .eql r29.2.2.2.2.2.2 17)=true then
 if (cop .eql r36.2.2.2.2.2.2 0)=true then
 if (cop .eql r43.2.2.2.2.2.2 8)=true then
 if (cop .eql r50.2.2.2.2.2.2 0)=true then
 if (cop .eql r50.2.2.2.1 r4)=true then
 (g8).bind fun (r57:Bool)=>
 some (r57)
 else
 some (false)
 else
 some (false)
 else
 some (false)
 else
 some (false)
 else
 some (false)
 else
 some (false)
 else
 some (false)):=by kernel_rfl
end Go.Proofs.Ytigknndkmlhmfaa
end

section
namespace Go.Proofs.Ytigknndkmlhmfaa
open Go Go.AM
set_option linter.unusedSimpArgs false
set_option linter.unusedVariables false
set_option maxRecDepth 100000
theorem ZnO {i:Nat} (h:i < 1000):iop .add .i64 (i:Int) 1=((i+1:Nat):Int):=by
 rw [Zi4 (by omega) (by omega)];omega
theorem Zop (ms:List Ms) (hl:ms.length < 1000) (t:Int) (h:∀ m∈ms,m.t≠t):Zga (ms.map mc) t=some (-1,t):=by
 refine JT ?_
 rw [Zeg,List.length_map]
 refine Ji (F:=fun k (_:Unit) i=>V8 k (ms.map mc) (ms.length:Int) i t) ms.length (fun _ _=>True) hl (fun k i _ hi _ next=>?_) () trivial
 refine Zy (ZaU ..) (Zb (fun hh=>?_) fun _=>ZH rfl)
 simp only [CQ] at hh
 have hi':i < ms.length:=by omega
 refine Zy (WT hi' _) (Za (Zle ..) (Zb (fun h1=>?_) fun _=>?_))
 ·simp only [CQ,mv] at h1
  exact (h _ (List.getElem_mem hi') h1).elim
 ·rw [Wm hi hl]
  exact next hi' () trivial
theorem ZoK (ms:List Ms) (hl:ms.length < 1000) (t:Int) (j:Nat) (hj:j < ms.length) (h1:ms[j].t=t) (h:∀ (i:Nat) (hi:i < j),ms[i].t≠t):Zga (ms.map mc) t=some ((j:Int),t):=by
 refine JT ?_
 rw [Zeg,List.length_map]
 refine Ji (F:=fun k (_:Unit) i=>V8 k (ms.map mc) (ms.length:Int) i t) ms.length (fun i _=>i≤j) hl (fun k i _ hi hle next=>?_) () (Nat.zero_le _)
 refine Zy (ZaU ..) (Zb (fun hh=>?_) fun hh=>?_)
 ·have hi':i < ms.length:=by omega
  refine Zy (WT hi' _) (Za (Zle ..) (Zb (fun h2=>?_) fun h2=>?_))
  ·simp only [CQ,mv] at h2
   have:i=j:=by
    by_cases hij:i < j
    ·exact (h i hij h2).elim
    ·omega
   subst this
   exact ZH rfl
  ·simp only [CQ,mv] at h2
   rw [Wm hi hl]
   refine next hi' () ?_
   by_cases hij:i=j
   ·subst hij;exact (h2 h1).elim
   ·omega
 ·simp only [CQ] at hh;omega
theorem Zoz (n:Int) (es:List Ep) (h:Vld n es) (t v:Int) (w:LL) (hw:w.length≤8) (hno:∀ e∈es,∀ m∈e.s,m.t≠t):g17 n (es.map ec) t v w=some (0,E0,0,0,0,E0,17):=by
 refine JT ?_
 have hlen:=h.len
 rw [Zli]
 refine Za (s22 n es h) (Zb (fun h=>by cases h) fun _=>Zb (fun h8=>?_) fun _=>?_)
 ·simp only [CQ] at h8;omega
 rw [List.length_map]
 refine Ji (F:=fun k (_:Unit) i=>Zi0 k v w n (es.map ec) t 0 E0 0 0 0 E0 (es.map ec) (es.length:Int) i) es.length (fun _ _=>True) (by omega) (fun k i _ hi _ next=>?_) () trivial
 refine Zy (Zgg ..) (Zb (fun hh=>?_) fun _=>ZH rfl)
 simp only [CQ] at hh
 have hi':i < es.length:=by omega
 have he:=h.ok _ (List.getElem_mem hi')
 refine Zy (YS hi' _) (Za (Zop es[i].s (by have:=he.sl;omega) t (hno _ (List.getElem_mem hi'))) (Zb (fun _=>?_) fun h1=>(h1 rfl).elim))
 rw [Wm hi (by omega)]
 exact next hi' () trivial
theorem Zmk (l:List Ms) (j:Nat) (hj:j < l.length) (hl:l.length < 1000):g48 (l.map mc) (j:Int) (iop .add .i64 (j:Int) 1)=some ((l.take j++l.drop (j+1)).map mc):=by
 rw [ZmT,ZnO (by omega)]
 unfold ZnV
 rw [JN (by omega),JN (by omega),JN (by rw [List.length_map];omega),Int.toNat_natCast,Int.toNat_natCast]
 simp [List.map_take,List.map_drop]
theorem Zon (n:Int) (es:List Ep) (h:Vld n es) (t v:Int) (w:LL) (hw:w.length≤8) (k j:Nat) (hk:k < es.length) (hj:j < es[k].s.length) (ht:es[k].s[j].t=t) (hb:∀ (i:Nat) (hi:i < j),es[k].s[i].t≠t)
  (hno:∀ (i:Nat) (hi:i < k),∀ m∈es[i].s,m.t≠t) :
  Ret (fun r=>(es[k].v≠v→r=(0,E0,0,0,0,E0,8))∧(es[k].v=v→r=(n,(es.set k { es[k] with s:=es[k].s.take j++es[k].s.drop (j+1) }).map ec,t,es[k].s[j].c,0,w,0))) (g17 n (es.map ec) t v w):=by
 have hlen:=h.len
 rw [Zli]
 refine Za (s22 n es h) (Zb (fun h=>by cases h) fun _=>Zb (fun h8=>?_) fun _=>?_)
 ·simp only [CQ] at h8;omega
 rw [List.length_map]
 refine Ji (F:=fun k (_:Unit) i=>Zi0 k v w n (es.map ec) t 0 E0 0 0 0 E0 (es.map ec) (es.length:Int) i) es.length (fun i _=>i≤k) (by omega) (fun f i _ hi hik next=>?_) () (Nat.zero_le _)
 refine Zy (Zgg ..) (Zb (fun hh=>?_) fun hh=>?_)
 ·have hi':i < es.length:=by omega
  have he:=h.ok _ (List.getElem_mem hi')
  by_cases hlt:i < k
  ·refine Zy (YS hi' _) (Za (Zop es[i].s (by have:=he.sl;omega) t (hno i hlt)) (Zb (fun _=>?_) fun h1=>(h1 rfl).elim))
   rw [Wm hi (by omega)]
   exact next hi' () (by omega)
  ·have hie:i=k:=by omega
   subst hie
   refine Zy (YS hi' _) (Za (ZoK es[i].s (by have:=he.sl;omega) t j hj ht hb) (Zb (fun h1=>?_) fun _=>Zb (fun h1=>?_) fun h1=>?_))
   ·simp only [CQ] at h1;omega
   ·simp only [CQ,ev] at h1
    exact ZH ⟨fun _=>rfl,fun h=>(h1 h).elim⟩
   ·simp only [CQ,ev] at h1
    have hat:=Zmi hi'
    have hlk:i < (es.map en).length:=by simpa using hi'
    have r1:(0:Int)≤(i:Int):=Int.natCast_nonneg i
    have r2:(i:Int) < (List.length (es.map en):Int):=by omega
    have hg:VK (es.map en) i 3=es[i].s.map mc:=by
     unfold VK
     rw [hat]
     rfl
    have hp1:JZ (es.map en) i 3 (AV.nest 4 false 41 E0)=(es.map en).set i [I es[i].o,I es[i].v,.nest 4 true 41 (es[i].q.map mc),.nest 4 false 41 []]:=YU hat
    have hp2:JZ ((es.map en).set i [I es[i].o,I es[i].v,.nest 4 true 41 (es[i].q.map mc),.nest 4 false 41 []]) i 3 (AV.nest 4 true 41 ((es[i].s.take j++es[i].s.drop (j+1)).map mc)) =
      (es.map en).set i (en { es[i] with s:=es[i].s.take j++es[i].s.drop (j+1) }):=by
     have:JZ ((es.map en).set i [I es[i].o,I es[i].v,.nest 4 true 41 (es[i].q.map mc),.nest 4 false 41 []]) i 3 (AV.nest 4 true 41 ((es[i].s.take j++es[i].s.drop (j+1)).map mc))=((es.map en).set i _).set i (en { es[i] with s:=es[i].s.take j++es[i].s.drop (j+1) }):=YU (Wd hlk)
     rw [this,List.set_set]
    refine Za (s40 n es (by omega) h.few) ?_
    rw [Int.toNat_natCast,hg,hp1,List.length_set]
    refine Zn r1 (Zn r2 (Zn r1 (Zn (Zfu hat rfl) (Za (Zmk _ j hj (by have:=he.sl;omega)) (Zn r1 (Zn r2 (Zn r1 (Zn r2 ?_))))))))
    rw [hp2,Zdw es i { es[i] with s:=es[i].s.take j++es[i].s.drop (j+1) } rfl]
    refine Zy (WT hj _) (Za (s43 w (by omega)) (ZH ?_))
    exact ⟨fun h=>(h (by simpa using h1)).elim,fun _=>rfl⟩
 ·simp only [CQ] at hh;omega
theorem ZoN (n:Int) (es:List Ep) (h:Vld n es) (t v:Int) (w:LL) (hw:w.length≤8) (k j:Nat) (hk:k < es.length) (hj:j < es[k].s.length) (ht:es[k].s[j].t=t) (hb:∀ (i:Nat) (hi:i < j),es[k].s[i].t≠t)
  (hno:∀ (i:Nat) (hi:i < k),∀ m∈es[i].s,m.t≠t) (hv:es[k].v≠v):g17 n (es.map ec) t v w=some (0,E0,0,0,0,E0,8):=by
 obtain ⟨r,e,h1,_⟩:=Zon n es h t v w hw k j hk hj ht hb hno
 rw [e,h1 hv]
theorem ZoA (n:Int) (es:List Ep) (h:Vld n es) (t v:Int) (w:LL) (hw:w.length≤8) (k j:Nat) (hk:k < es.length) (hj:j < es[k].s.length) (ht:es[k].s[j].t=t) (hb:∀ (i:Nat) (hi:i < j),es[k].s[i].t≠t)
  (hno:∀ (i:Nat) (hi:i < k),∀ m∈es[i].s,m.t≠t) (hv:es[k].v=v):g17 n (es.map ec) t v w=some (n,(es.set k { es[k] with s:=es[k].s.take j++es[k].s.drop (j+1) }).map ec,t,es[k].s[j].c,0,w,0):=by
 obtain ⟨r,e,_,h1⟩:=Zon n es h t v w hw k j hk hj ht hb hno
 rw [e,h1 hv]
theorem ZoS (n:Int) (es:List Ep) (h:Vld n es) (k:Nat) (hk:k < es.length) (v:Int) (hv:es[k].v≠v) :
  g14 n (es.map ec) es[k].o v=some (0,E0,0,0,E0,0,8):=by
 refine JT ?_
 have hlen:=h.len
 rw [Zk4]
 refine Za (s22 n es h) (Zb (fun h=>by cases h) fun _=>Za (s39 n es (by omega) h.ord) (Zn rfl ?_))
 refine Zy (WA (Zd8 hk h.ord) _) (Zb (fun h=>by cases h) fun _=>Zy (YS hk _) (Zb (fun h8=>ZH rfl) fun h8=>?_))
 simp only [CQ,ev] at h8;exact (h8 hv).elim
theorem ZoQ (n:Int) (es:List Ep) (h:Vld n es) (k:Nat) (hk:k < es.length) (w:LL) (s:Int) (hm:Ze3 ⟨0,es[k].v,w,s⟩) (hq:es[k].q.length < 8) :
  g12 n (es.map ec) es[k].o es[k].v w s=some (0,E0,0,4):=by
 refine JT ?_
 rw [Zlh]
 refine Zda (Q:=fun r=>r=(0,E0,4)) ?_ fun r hr=>ZH (by rw [hr])
 rw [ZiX]
 have hlen:=h.len
 refine Za (s22 n es h) (Zb (fun h=>by cases h) fun _=>Za (s69 ⟨0,es[k].v,w,s⟩ hm) (Zb (fun h=>by cases h) fun _=>Za (s39 n es (by omega) h.ord) (Zn rfl ?_)))
 refine Zy (WA (Zd8 hk h.ord) _) (Zb (fun h=>by cases h) fun _=>Zy (YS hk _) (Zb (fun h8=>?_) fun _=>Zb (fun _=>?_) fun h=>(h rfl).elim))
 ·simp only [CQ,ev,List.length_map] at h8;omega
 refine Zy (YS hk _) (Zb (fun hb=>ZH rfl) fun hb=>?_)
 exact (hb (by simp only [CQ,ev])).elim
theorem Zox (n:Int) (es:List Ep) (h:Vld n es) (c:Int) (hno:∀ e∈es,∀ m∈e.q++e.s,m.c=c→m.t≤0):g16 n (es.map ec) c=some []:=by
 refine JT ?_
 have hlen:=h.len
 rw [ZmS]
 refine Za (s22 n es h) (Zb (fun h=>by cases h) fun _=>?_)
 rw [List.length_map]
 refine Ji (F:=fun k (_:Unit) i=>Zmr k c E0 (es.map ec) (es.length:Int) i) es.length (fun _ _=>True) (by omega) (fun k i _ hi _ next=>?_) () trivial
 refine Zy (Zj2 ..) (Zb (fun hh=>?_) fun _=>Za (a:=()) ?_ (ZH rfl))
 ·simp only [CQ] at hh
  have hi':i < es.length:=by omega
  have he:=h.ok _ (List.getElem_mem hi')
  refine Zy (YS hi' _) (Za (s44 es[i].q es[i].s (by have:=he.ql;omega) he.sl) ?_)
  obtain ⟨l,hl⟩:∃ l,l=es[i].q++es[i].s:=⟨_,rfl⟩
  have hll:l.length≤800:=by have:=he.ql;have:=he.sl;rw [hl,List.length_append];omega
  have hno':=hno _ (List.getElem_mem hi')
  rw [← hl] at hno' ⊢
  rw [List.length_map]
  refine Ji (F:=fun k' (_:Unit) j=>ZfS (F16.lp [0,1,0] 0 r0 k) k' c E0 (es.map ec) (es.length:Int) (i:Int) (l.map mc) (l.length:Int) j) l.length (fun _ _=>True) (by omega) (fun k' j _ hj _ nx=>?_) () trivial
  refine Zy (ZjY ..) (Zb (fun hh=>?_) fun _=>?_)
  ·simp only [CQ] at hh
   have hj':j < l.length:=by omega
   have go:Ret (fun r=>r=E0) (ZfS (F16.lp [0,1,0] 0 r0 k) k' c E0 (es.map ec) (es.length:Int) (i:Int) (l.map mc) (l.length:Int) (iop .add .i64 (j:Int) 1)):=by
    rw [Wm hj (by omega)]
    exact nx hj' () trivial
   refine Zn (by omega) (Zn (by rw [List.length_map];omega) (Zy (WT hj' _) (Zb (fun hc=>Zb (fun ht=>?_) fun _=>go) fun _=>go)))
   simp only [CQ,mv] at hc ht
   have:=hno' _ (List.getElem_mem hj') hc
   omega
  ·rw [Wm hi (by omega)]
   exact next hi' () trivial
 ·rw [Znn]
  unfold ZhL
  rw [JN rfl]
theorem Zh7 (x:Int):∃ a,g15 x 32=some a∧0≤a∧a < 32:=by
 have key:Ret (fun a=>0≤a∧a < 32) (g15 x 32):=by
  have hr:iop .rem .i64 x 32=Int.tmod x 32:=rfl
  have h1:=Int.tmod_lt_of_pos x (b:=32) (by decide)
  have h2 : -32 < Int.tmod x 32:=by
   have:=Int.tmod_lt_of_pos (-x) (b:=32) (by decide)
   rw [Int.neg_tmod] at this
   omega
  rw [Zm3,hr]
  refine Zn (by decide) (Zb (fun h=>ZH ?_) fun h=>ZH ?_)
  ·simp only [CQ] at h
   rw [Zi4 (by omega) (by omega)]
   omega
  ·simp only [CQ] at h;omega
 obtain ⟨a,h1,h2⟩:=key
 exact ⟨a,h1,h2⟩
theorem s5 (x y z:Int):g5 x y z=some true:=by
 refine JT ?_
 obtain ⟨a,ha,a0,a1⟩:=Zh7 x
 obtain ⟨b,hb,b0,b1⟩:=Zh7 y
 obtain ⟨hc,hv⟩:=Zmo (o:=0) (v:=a) (by decide) (by decide) a0 a1
 obtain ⟨W,hW⟩:∃ W:LL,W=(E0++[[AV.val (.int .u64 z)]]):=⟨_,rfl⟩
 have hWl:W.length≤8:=by rw [hW];simp
 have ma:Ze3 ⟨0,a,W,-1⟩:=ZiN 0 (by decide) a0 a1 hWl (by decide) (by decide)
 have mb:Ze3 ⟨0,b,W,-1⟩:=ZiN 0 (by decide) b0 b1 hWl (by decide) (by decide)
 have e1:g12 0 ((S 0 a [] []).map ec) 0 a W (-1)=some (0,E0,0,4):=ZoQ 0 (S 0 a [] []) hv 0 (by simp [S]) W (-1) ma (by simp [S])
 obtain ⟨e2,v2⟩:=Zj1 hv ma (by simp)
 rw [ZnY,← hW]
 refine Za ha (Za hb (Za s10 (Za hc (Za e1 (Za e2 ?_)))))
 refine Zb (fun h=>?_) fun _=>Zb (fun h=>?_) fun _=>Zb (fun h=>?_) fun _=>?_
 ·simp only [CQ] at h;exact (h rfl).elim
 ·simp only [CQ] at h;exact (h rfl).elim
 ·simp only [CQ] at h;exact (h rfl).elim
 refine Za (Zox 0 _ v2 a fun e he m hm _=>?_) (Zb (fun h=>by cases h) fun _=>Zb (fun _=>Za s8 (ZH rfl)) fun hab=>?_)
 ·rw [List.mem_singleton.1 he] at hm
  have:m=⟨0,a,W,-1⟩:=by simpa using hm
  rw [this]
  exact Int.le_refl _
 simp only [CQ] at hab
 obtain ⟨c1,v3⟩:=ZkR hv mb (by simp) hab (by decide)
 obtain ⟨c4,v4⟩:=ZkE v3 (by decide)
 have hif:(if 0 < (⟨0+1,b,W,-1⟩:Ms).t then ([] : List Ms)++[⟨0+1,b,W,-1⟩] else []) = [⟨0+1,b,W,-1⟩]:=by rw [if_pos (show (0:Int) < 0+1 by decide)];rfl
 rw [hif] at c4 v4
 have c2:=ZoS (0+1) _ v3 0 (by simp [S]) b hab
 have c3:=Zoz (0+1) _ v3 (0+1) a E0 (by simp) (fun e he m hm=>by rw [List.mem_singleton.1 he] at hm;cases hm)
 have c5:=ZoN (0+1) _ v4 (0+1) b E0 (by simp) 0 0 (by simp [S]) (by simp [S]) rfl (fun i hi=>by omega) (fun i hi=>by omega) hab
 have c6:=ZoA (0+1) _ v4 (0+1) a E0 (by simp) 0 0 (by simp [S]) (by simp [S]) rfl (fun i hi=>by omega) (fun i hi=>by omega) rfl
 refine Za c1 (Za c2 (Za c3 (Za c4 (Za c5 (Za c6 ?_)))))
 refine Zb (fun _=>Zb (fun _=>Zb (fun _=>Zb (fun _=>Zb (fun _=>Zb (fun _=>Zb (fun _=>Za s8 (ZH rfl)) fun h=>?_) fun h=>?_) fun h=>?_) fun h=>?_) fun h=>?_) fun h=>?_) fun h=>?_
 all_goals first | exact (h rfl).elim | skip
 ·simp only [CQ] at h
  exact (h rfl).elim
end Go.Proofs.Ytigknndkmlhmfaa
end
