/- La, Lb, Lc, Ld, Le, Lf, Lg, Lh, Li, Lj, EndL, Lp1, Lp2, Lp3, Lp4, Lp5, Lp6: texts of the proof, put together. -/
import Derived.Test.YtigknndkmlhmfaaGL
import Derived.Test.YtigknndkmlhmfaaRows
import Derived.Test.YtigknndkmlhmfaaChecked
import Derived.Test.YtigknndkmlhmfaaM5
import Derived.JoinedOf
import Derived.JoinedAt
import Derived.RowKit3
import Derived.KernelRfl

section
namespace Go.Proofs.Ytigknndkmlhmfaa
open Go Go.AM
set_option linter.unusedVariables false
set_option maxRecDepth 100000
noncomputable def F65:Fn:=⟨8,[2],[],[],0,[2,5,7],[],Try.f65,[.c (.slice 4)],[.c (.own true 80)],[]⟩
theorem ZoD:F65.S.Ok Try.prog 65:=F65.ok Try.func65 (by kernel_rfl) trivial
noncomputable def g65 (x0:LL):Option (LL):=F65.S.g [.l x0]
theorem Zms (x0:LL):g65 x0 =
 (ZgV x0 fun r1=>
 if r1=true then
 some (E0)
 else
 Zu (YW E0 x0 64)<|
 some ((E0++x0))):=by kernel_rfl
noncomputable def F75:Fn:=⟨8,[2],[],[],0,[2,5,7],[],Try.f75,[.c (.slice 4)],[.c (.own true 41)],[]⟩
theorem Zou:F75.S.Ok Try.prog 75:=F75.ok Try.func75 (by kernel_rfl) trivial
noncomputable def g75 (x0:LL):Option (LL):=F75.S.g [.l x0]
theorem ZmL (x0:LL):g75 x0 =
 (ZgV x0 fun r1=>
 if r1=true then
 some (E0)
 else
 Zu (YW E0 x0 48)<|
 some ((E0++x0))):=by kernel_rfl
noncomputable def F43:Fn:=⟨8,[2],[],[],0,[],[],Try.f43,[.c (.slice 1)],[.c (.own false 44)],[]⟩
theorem ZnD:F43.S.Ok Try.prog 43:=F43.ok Try.func43 (by kernel_rfl) trivial
noncomputable def g43 (x0:LL):Option (LL):=F43.S.g [.l x0]
theorem Znd (x0:LL):g43 x0 =
 (ZgV x0 fun r1=>
 if r1=true then
 some (E0)
 else
 Zu (YW E0 x0 8)<|
 some ((E0++x0))):=by kernel_rfl
noncomputable def F66:Fn:=⟨24,[2],[(3,[(3,.c (.own true 41)),(8,.c (.int .i64)),(9,.c (.int .i64))])],[],0,[2],[],Try.f66,[.c (.slice 4)],[.c (.own true 41)],[(75,F75.S),(43,F43.S)]⟩
theorem Zor:F66.S.Ok Try.prog 66:=F66.ok Try.func66 (by kernel_rfl) ⟨Zou,⟨ZnD,trivial⟩⟩
noncomputable def g66 (x0:LL):Option (LL):=F66.S.g [.l x0]
noncomputable def ZjR (k:Nat) (x0:LL) (x1:Int) (x2:Int):Option (LL):=F66.lp [2] 0 r0 k [.l x0,.i x1,.i x2]
theorem Zj7 (k:Nat) (x0:LL) (x1:Int) (x2:Int):ZjR (k+1) x0 x1 x2 =
 (if (cop .lss x2 x1)=true then
 Zu ((0:Int)≤x2)<|
 Zu ((x2:Int) < (List.length x0:Int))<|
 ZN x0 x2 [.int .i64,.int .i64,.slice 1,.int .i64] fun (r3:Int×Int×LL×Int)=>
 (g43 r3.2.2.1).bind fun (r7:LL)=>
 Zu ((0:Int)≤x2)<|
 Zu ((x2:Int) < (List.length x0:Int))<|
 Zu ((0:Int)≤x2)<|
 Zu ((x2:Int) < (List.length x0:Int))<|
 ZjR k (ZD x0 (Int.toNat x2) 2 [AV.slice false 1 r7]) x1 (iop .add .i64 x2 1)
 else
 some (x0)):=by kernel_rfl
theorem Zm1 (x0:LL):g66 x0 =
 ((g75 x0).bind fun (r1:LL)=>
 ZjR WW r1 (List.length r1:Int) 0):=by kernel_rfl
noncomputable def F40:Fn:=⟨35,[2],[(3,[(1,.box [.int .i64,.own true 2097232]),(2,.box [.int .i64,.slice 4]),(10,.mref 1 2),(11,.c (.int .i64)),(12,.c (.int .i64))])],[],0,[],[(2,[(1,1002)])],Try.f40,[.agg [.int .i64,.slice 4]],[.aggo [.int .i64,.own true 2097232]],[(65,F65.S),(66,F66.S)]⟩
theorem ZnA:F40.S.Ok Try.prog 40:=F40.ok Try.func40 (by kernel_rfl) ⟨ZoD,⟨Zor,trivial⟩⟩
noncomputable def g40 (x0:Int) (x1:LL):Option (Int×LL):=F40.S.g [.i x0,.l x1]
noncomputable def Zj3 (k:Nat) (x0:Int) (x1:LL) (x2:Int) (x3:LL) (x4:Int) (x5:Int):Option (Int×LL):=F40.lp [2] 0 r0 k [.i x0,.l x1,.i x2,.l x3,.i x4,.i x5]
theorem ZkC (k:Nat) (x0:Int) (x1:LL) (x2:Int) (x3:LL) (x4:Int) (x5:Int):Zj3 (k+1) x0 x1 x2 x3 x4 x5 =
 (if (cop .lss x5 x4)=true then
 Zu ((0:Int)≤x5)<|
 Zu ((x5:Int) < (List.length x1:Int))<|
 ZN (Zjv (KD x1 (Int.toNat x5) 0 4) 0 4) x5 [.int .i64,.int .i64,.slice 4,.slice 4] fun (r6:Int×Int×LL×LL)=>
 (g66 r6.2.2.1).bind fun (r10:LL)=>
 Zu ((0:Int)≤x5)<|
 Zu ((x5:Int) < (List.length (KD x1 (Int.toNat x5) 0 4):Int))<|
 Zu ((0:Int)≤x5)<|
 Zu ((x5:Int) < (List.length (KD x1 (Int.toNat x5) 0 4):Int))<|
 (g66 r6.2.2.2).bind fun (r11:LL)=>
 Zu ((0:Int)≤x5)<|
 Zu ((x5:Int) < (List.length (Yl (KD x1 (Int.toNat x5) 0 4) (Int.toNat x5) 2 (AV.nest 4 true 41 r10)):Int))<|
 Zu ((0:Int)≤x5)<|
 Zu ((x5:Int) < (List.length (Yl (KD x1 (Int.toNat x5) 0 4) (Int.toNat x5) 2 (AV.nest 4 true 41 r10)):Int))<|
 Zj3 k x0 (Yl (Yl (KD x1 (Int.toNat x5) 0 4) (Int.toNat x5) 2 (AV.nest 4 true 41 r10)) (Int.toNat x5) 3 (AV.nest 4 true 41 r11)) x2 x3 x4 (iop .add .i64 x5 1)
 else
 some (x0,x1)):=by kernel_rfl
theorem Znl (x0:Int) (x1:LL):g40 x0 x1 =
 ((g65 x1).bind fun (r2:LL)=>
 Zj3 WW x0 (ZhA r2) 0 E0 (List.length (ZhA r2):Int) 0):=by kernel_rfl
end Go.Proofs.Ytigknndkmlhmfaa
end

section
namespace Go.Proofs.Ytigknndkmlhmfaa
open Go Go.AM
set_option linter.unusedVariables false
set_option maxRecDepth 100000
def Zhe:Go.Shelf.Ren:=⟨fun | 4=>70 | n=>n,fun | 25=>41 | 0=>0 | 3=>3 | 4=>4 | 9=>9 | 20=>20 | 22=>62 | n=>n,fun | n=>n⟩
theorem ZmO:Go.Proofs.Lays8.n4 Try.prog Zhe:={
 mixed:=by kernel_rfl
 f4:=⟨Try.f70.name,by decide,Try.func70.trans (congrArg some (by kernel_rfl))⟩
 t0:=Try.underlying0
 a0:=Try.isAgg0
 z0:=Try.sizeOf0
 v0:=Try.zeroValue0
 t3:=Try.underlying3
 a3:=Try.isAgg3
 z3:=Try.sizeOf3
 v3:=Try.zeroValue3
 t4:=Try.underlying4
 a4:=Try.isAgg4
 z4:=Try.sizeOf4
 v4:=Try.zeroValue4
 t9:=Try.underlying9
 a9:=Try.isAgg9
 z9:=Try.sizeOf9
 v9:=Try.zeroValue9
 t20:=Try.underlying20
 a20:=Try.isAgg20
 z20:=Try.sizeOf20
 v20:=Try.zeroValue20
 t22:=Try.underlying62
 a22:=Try.isAgg62
 z22:=Try.sizeOf62
 v22:=Try.zeroValue62 }
noncomputable def F70.S:Fun:=ZmX 41 48
theorem Zot:F70.S.Ok Try.prog 70:=ZjU ZmO (by kernel_rfl) rfl rfl ⟨Try.f70,Try.func70,by kernel_rfl,by kernel_rfl⟩
noncomputable def g70 (x0:LL) (x1:Int):Option LL:=F70.S.g [.l x0,.i x1]
theorem ZmD (x0:LL) (x1:Int):g70 x0 x1=Zl8 48 x0 x1:=rfl
noncomputable def F44:Fn:=⟨36,[2],[(3,[(0,.c (.slice 1)),(3,.c (.int .i64)),(9,.c (.slice 1)),(10,.c (.int .i64)),(11,.c (.int .i64))]),(11,[(6,.c (.own true 41)),(25,.c (.slice 1)),(26,.c (.int .i64)),(27,.c (.int .i64))])],[],0,[2,33],[],Try.f44,[.c (.slice 1)],[.c (.own true 41)],[(70,F70.S)]⟩
theorem Zoz:F44.S.Ok Try.prog 44:=F44.ok Try.func44 (by kernel_rfl) ⟨Zot,trivial⟩
noncomputable def g44 (x0:LL):Option (LL):=F44.S.g [.l x0]
noncomputable def ZlO (k:Nat) (x0:LL) (x1:LL) (x2:Int) (x3:Int):Option (LL):=F44.lp [0,1,2] 0 r0 k [.l x0,.l x1,.i x2,.i x3]
theorem Zdw (k:Nat) (x0:LL) (x1:LL) (x2:Int) (x3:Int):ZlO (k+1) x0 x1 x2 x3 =
 (if (cop .lss x3 x2)=true then
 ZN x1 x3 [.slice 4] fun (r4:LL)=>
 Zu (YW x0 r4 48)<|
 ZlO k (x0++r4) x1 x2 (iop .add .i64 x3 1)
 else
 some (x0)):=by kernel_rfl
noncomputable def ZlJ (k:Nat) (x0:LL) (x1:Int) (x2:LL) (x3:Int) (x4:Int):Option (LL):=F44.lp [0] 0 r0 k [.l x0,.i x1,.l x2,.i x3,.i x4]
theorem ZdC (k:Nat) (x0:LL) (x1:Int) (x2:LL) (x3:Int) (x4:Int):ZlJ (k+1) x0 x1 x2 x3 x4 =
 (if (cop .lss x4 x3)=true then
 ZN x2 x4 [.slice 4] fun (r5:LL)=>
 if (cop .lss (iop .add .i64 x1 (List.length r5:Int)) 0)=true then
 none
 else
 ZlJ k x0 (iop .add .i64 x1 (List.length r5:Int)) x2 x3 (iop .add .i64 x4 1)
 else
 (g70 E0 x1).bind fun (r5:LL)=>
 ZlO WW r5 x0 (List.length x0:Int) 0):=by kernel_rfl
theorem Zni (x0:LL):g44 x0 =
 (ZlJ WW x0 0 x0 (List.length x0:Int) 0):=by kernel_rfl
noncomputable def F37:Fn:=⟨9,[2],[],[],0,[],[],Try.f37,[.c (.int .i64)],[.c (.bool)],[]⟩
theorem Zoo:F37.S.Ok Try.prog 37:=F37.ok Try.func37 (by kernel_rfl) trivial
noncomputable def g37 (x0:Int):Option (Bool):=F37.S.g [.i x0]
theorem Zm3 (x0:Int):g37 x0 =
 (if (cop .geq x0 0)=true then
 some ((cop .leq x0 1099511627775))
 else
 some (false)):=by kernel_rfl
noncomputable def F38:Fn:=⟨9,[2],[],[],0,[],[],Try.f38,[.c (.int .i64)],[.c (.bool)],[]⟩
theorem ZnX:F38.S.Ok Try.prog 38:=F38.ok Try.func38 (by kernel_rfl) trivial
noncomputable def g38 (x0:Int):Option (Bool):=F38.S.g [.i x0]
theorem Znv (x0:Int):g38 x0 =
 (if (cop .geq x0 0)=true then
 some ((cop .lss x0 32))
 else
 some (false)):=by kernel_rfl
noncomputable def F69:Fn:=⟨27,[2],[],[],0,[],[],Try.f69,[.agg [.int .i64,.int .i64,.slice 1,.int .i64]],[.c (.bool)],[(38,F38.S)]⟩
theorem Zoi:F69.S.Ok Try.prog 69:=F69.ok Try.func69 (by kernel_rfl) ⟨ZnX,trivial⟩
noncomputable def g69 (x0:Int) (x1:Int) (x2:LL) (x3:Int):Option (Bool):=F69.S.g [.i x0,.i x1,.l x2,.i x3]
theorem ZmG (x0:Int) (x1:Int) (x2:LL) (x3:Int):g69 x0 x1 x2 x3 =
 (if (cop .geq x0 0)=true then
 (g38 x1).bind fun (r4:Bool)=>
 if r4=true then
 if (cop .leq (List.length x2:Int) 8)=true then
 if (cop .geq x3 (-1))=true then
 some ((cop .lss x3 64))
 else
 some (false)
 else
 some (false)
 else
 some (false)
 else
 some (false)):=by kernel_rfl
noncomputable def F52:Fn:=⟨38,[2],[(4,[(1,.box [.int .i64,.int .i64,.slice 4,.slice 4]),(12,.c (.slice 4)),(13,.c (.int .i64)),(14,.c (.int .i64))]),(10,[(23,.c (.slice 4)),(24,.c (.int .i64)),(25,.c (.int .i64))])],[],0,[],[],Try.f52,[.agg [.int .i64,.int .i64,.slice 4,.slice 4]],[.c (.bool)],[(69,F69.S)]⟩
theorem ZoG:F52.S.Ok Try.prog 52:=F52.ok Try.func52 (by kernel_rfl) ⟨Zoi,trivial⟩
noncomputable def g52 (x0:Int) (x1:Int) (x2:LL) (x3:LL):Option (Bool):=F52.S.g [.i x0,.i x1,.l x2,.l x3]
noncomputable def Zji (k:Nat) (x0:LL) (x1:Int) (x2:Int):Option (Bool):=F52.lp [1,0,1,0] 0 r0 k [.l x0,.i x1,.i x2]
theorem ZkN (k:Nat) (x0:LL) (x1:Int) (x2:Int):Zji (k+1) x0 x1 x2 =
 (if (cop .lss x2 x1)=true then
 ZN x0 x2 [.int .i64,.int .i64,.slice 1,.int .i64] fun (r3:Int×Int×LL×Int)=>
 (g69 r3.1 r3.2.1 r3.2.2.1 r3.2.2.2).bind fun (r7:Bool)=>
 if (!r7)=true then
 some (false)
 else
 if (cop .eql r3.1 0)=true then
 some (false)
 else
 Zji k x0 x1 (iop .add .i64 x2 1)
 else
 some (true)):=by kernel_rfl
noncomputable def Zj4 (k:Nat) (x0:Int) (x1:Int) (x2:LL) (x3:LL) (x4:LL) (x5:Int) (x6:Int):Option (Bool):=F52.lp [1,0] 0 r0 k [.i x0,.i x1,.l x2,.l x3,.l x4,.i x5,.i x6]
theorem ZkO (k:Nat) (x0:Int) (x1:Int) (x2:LL) (x3:LL) (x4:LL) (x5:Int) (x6:Int):Zj4 (k+1) x0 x1 x2 x3 x4 x5 x6 =
 (if (cop .lss x6 x5)=true then
 ZN x4 x6 [.int .i64,.int .i64,.slice 1,.int .i64] fun (r7:Int×Int×LL×Int)=>
 (g69 r7.1 r7.2.1 r7.2.2.1 r7.2.2.2).bind fun (r11:Bool)=>
 if (!r11)=true then
 some (false)
 else
 Zj4 k x0 x1 x2 x3 x4 x5 (iop .add .i64 x6 1)
 else
 Zji WW x3 (List.length x3:Int) 0):=by kernel_rfl
theorem ZmJ (x0:Int) (x1:Int) (x2:LL) (x3:LL):g52 x0 x1 x2 x3 =
 (if (cop .gtr (List.length x2:Int) 8)=true then
 some (false)
 else
 Zj4 WW x0 x1 x2 x3 x2 (List.length x2:Int) 0):=by kernel_rfl
noncomputable def F22:Fn:=⟨92,[2],[(5,[(1,.box [.int .i64,.slice 4]),(3,.c (.own true 1048668)),(24,.c (.slice 4)),(25,.c (.int .i64)),(26,.c (.int .i64))]),(10,[(1,.box [.int .i64,.slice 4]),(3,.c (.own true 1048668)),(24,.c (.slice 4)),(25,.c (.int .i64)),(26,.c (.int .i64)),(67,.c (.own true 41)),(68,.c (.int .i64)),(69,.c (.int .i64))])],[],0,[],[],Try.f22,[.agg [.int .i64,.slice 4]],[.c (.bool)],[(37,F37.S),(38,F38.S),(52,F52.S),(44,F44.S)]⟩
theorem Zm0:F22.S.Ok Try.prog 22:=F22.ok Try.func22 (by kernel_rfl) ⟨Zoo,⟨ZnX,⟨ZoG,⟨Zoz,trivial⟩⟩⟩⟩
noncomputable def g22 (x0:Int) (x1:LL):Option (Bool):=F22.S.g [.i x0,.l x1]
noncomputable def Zd4 (rec0:List V→Option (Bool)) (k:Nat) (x0:Int) (x1:LL) (x2:LL) (x3:LL) (x4:Int) (x5:Int) (x6:LL) (x7:Int) (x8:Int):Option (Bool):=F22.lp [1,1,1,2,2,1,0,1,0,1,0,0,1,2] 1 (Zmo r0 0 rec0) k [.i x0,.l x1,.l x2,.l x3,.i x4,.i x5,.l x6,.i x7,.i x8]
theorem Zkx (rec0:List V→Option (Bool)) (k:Nat) (x0:Int) (x1:LL) (x2:LL) (x3:LL) (x4:Int) (x5:Int) (x6:LL) (x7:Int) (x8:Int):Zd4 rec0 (k+1) x0 x1 x2 x3 x4 x5 x6 x7 x8 =
 (if (cop .lss x8 x7)=true then
 Zu ((0:Int)≤x8)<|
 Zu ((x8:Int) < (List.length x6:Int))<|
 ZN x6 x8 [.int .i64,.int .i64,.slice 1,.int .i64] fun (r9:Int×Int×LL×Int)=>
 if (cop .eql r9.1 0)=true then
 Zd4 rec0 k x0 x1 x2 x3 x4 x5 x6 x7 (iop .add .i64 x8 1)
 else
 Zu (qop .mapv x2 0=true)<|
 ZN (ZbN x2 r9.1 [AV.val (.bool false)]) 0 [.bool,.bool] fun (r13:Bool×Bool)=>
 if r13.1=true then
 some (false)
 else
 if (cop .gtr r9.1 x0)=true then
 some (false)
 else
 Zu (qop .mapv x2 0=true)<|
 Zd4 rec0 k x0 x1 (ZhT x2 r9.1 [AV.val (.bool true)]) x3 x4 x5 x6 x7 (iop .add .i64 x8 1)
 else
 rec0 [.i x0,.l x1,.l x2,.l x3,.i x4,.i (iop .add .i64 x5 1)]):=by kernel_rfl
noncomputable def Zme (k:Nat) (x0:Int) (x1:LL) (x2:LL) (x3:LL) (x4:Int) (x5:Int):Option (Bool):=F22.lp [1,1,1,0] 0 r0 k [.i x0,.l x1,.l x2,.l x3,.i x4,.i x5]
theorem Zjy (k:Nat) (x0:Int) (x1:LL) (x2:LL) (x3:LL) (x4:Int) (x5:Int):Zme (k+1) x0 x1 x2 x3 x4 x5 =
 (if (cop .lss x5 x4)=true then
 ZN x3 x5 [.int .i64,.int .i64,.slice 4,.slice 4] fun (r6:Int×Int×LL×LL)=>
 (g37 r6.1).bind fun (r10:Bool)=>
 if (!r10)=true then
 some (false)
 else
 (g38 r6.2.1).bind fun (r11:Bool)=>
 if (!r11)=true then
 some (false)
 else
 (g52 r6.1 r6.2.1 r6.2.2.1 r6.2.2.2).bind fun (r12:Bool)=>
 if (!r12)=true then
 some (false)
 else
 if (cop .gtr x5 0)=true then
 ZN x1 (iop .sub .i64 x5 1) [.int .i64,.int .i64,.slice 4,.slice 4] fun (r13:Int×Int×LL×LL)=>
 if (cop .geq r13.1 r6.1)=true then
 some (false)
 else
 (g44 ((E0++[[AV.slice false 4 r6.2.2.1]])++[[AV.slice false 4 r6.2.2.2]])).bind fun (r17:LL)=>
 Zd4 (F22.lp [1,1,1,0] 0 r0 k) WW x0 x1 x2 x3 x4 x5 r17 (List.length r17:Int) 0
 else
 (g44 ((E0++[[AV.slice false 4 r6.2.2.1]])++[[AV.slice false 4 r6.2.2.2]])).bind fun (r13:LL)=>
 Zd4 (F22.lp [1,1,1,0] 0 r0 k) WW x0 x1 x2 x3 x4 x5 r13 (List.length r13:Int) 0
 else
 some (true)):=by kernel_rfl
theorem Znn (x0:Int) (x1:LL):g22 x0 x1 =
 (if (cop .lss x0 0)=true then
 some (false)
 else
 if (cop .gtr x0 1099511627776)=true then
 some (false)
 else
 if (cop .gtr (List.length x1:Int) 32)=true then
 some (false)
 else
 Zme WW x0 x1 (E0++[[AV.slice false 2 E0]]) x1 (List.length x1:Int) 0):=by kernel_rfl
end Go.Proofs.Ytigknndkmlhmfaa
end

section
namespace Go.Proofs.Ytigknndkmlhmfaa
open Go Go.AM
set_option linter.unusedVariables false
set_option maxRecDepth 100000
noncomputable def F39:Fn:=⟨21,[2],[(3,[(3,.c (.own true 1048653)),(8,.c (.slice 4)),(9,.c (.int .i64)),(10,.c (.int .i64))])],[],0,[],[],Try.f39,[.agg [.int .i64,.slice 4]],[.c (.own true 1048653)],[]⟩
theorem Zoa:F39.S.Ok Try.prog 39:=F39.ok Try.func39 (by kernel_rfl) trivial
noncomputable def g39 (x0:Int) (x1:LL):Option (LL):=F39.S.g [.i x0,.l x1]
noncomputable def Zjz (k:Nat) (x0:LL) (x1:LL) (x2:Int) (x3:Int):Option (LL):=F39.lp [0] 0 r0 k [.l x0,.l x1,.i x2,.i x3]
theorem ZjY (k:Nat) (x0:LL) (x1:LL) (x2:Int) (x3:Int):Zjz (k+1) x0 x1 x2 x3 =
 (if (cop .lss x3 x2)=true then
 ZN x1 x3 [.int .i64,.int .i64,.slice 4,.slice 4] fun (r4:Int×Int×LL×LL)=>
 Zu (qop .mapv x0 0=true)<|
 Zjz k (ZhT x0 r4.1 [AV.val (.int .i64 x3)]) x1 x2 (iop .add .i64 x3 1)
 else
 some (x0)):=by kernel_rfl
theorem Zng (x0:Int) (x1:LL):g39 x0 x1 =
 (Zjz WW (E0++[[AV.slice false 2 E0]]) x1 (List.length x1:Int) 0):=by kernel_rfl
noncomputable def F42:Fn:=⟨93,[8,9],[],[],0,[],[(20,[(12,2),(12,2)])],Try.f42,[.agg [.int .i64,.slice 4],.c (.int .i64),.agg [.int .i64,.int .i64,.slice 1,.int .i64],.c (.bool)],[.agg [.int .i64,.slice 4],.c (.int .i64)],[(22,F22.S),(69,F69.S),(39,F39.S),(40,F40.S),(43,F43.S)]⟩
theorem Zon:F42.S.Ok Try.prog 42:=F42.ok Try.func42 (by kernel_rfl) ⟨Zm0,⟨Zoi,⟨Zoa,⟨ZnA,⟨ZnD,trivial⟩⟩⟩⟩⟩
noncomputable def g42 (x0:Int) (x1:LL) (x2:Int) (x3:Int) (x4:Int) (x5:LL) (x6:Int) (x7:Bool):Option (Int×LL×Int):=F42.S.g [.i x0,.l x1,.i x2,.i x3,.i x4,.l x5,.i x6,.b x7]
theorem Zk5 (x0:Int) (x1:LL) (x2:Int) (x3:Int) (x4:Int) (x5:LL) (x6:Int) (x7:Bool):g42 x0 x1 x2 x3 x4 x5 x6 x7 =
 ((g22 x0 x1).bind fun (r8:Bool)=>
 if (!r8)=true then
 some (0,E0,74)
 else
 (g69 x3 x4 x5 x6).bind fun (r9:Bool)=>
 if (!r9)=true then
 some (0,E0,1)
 else
 (g39 x0 x1).bind fun (r10:LL)=>
 Zu (qop .mapv r10 0=true)<|
 ZN (ZbN r10 x2 [AV.val (.int .i64 0)]) 0 [.int .i64,.bool] fun (r11:Int×Bool)=>
 if (!r11.2)=true then
 some (0,E0,17)
 else
 ZN x1 r11.1 [.int .i64,.int .i64,.slice 4,.slice 4] fun (r13:Int×Int×LL×LL)=>
 if (cop .eql (List.length r13.2.2.1:Int) 8)=true then
 some (0,E0,65)
 else
 if x7=true then
 ZN x1 r11.1 [.int .i64,.int .i64,.slice 4,.slice 4] fun (r17:Int×Int×LL×LL)=>
 if (cop .eql r17.2.1 x4)=true then
 some (0,E0,4)
 else
 if x7=true then
 if (cop .eql x0 1099511627776)=true then
 some (0,E0,15)
 else
 (g40 x0 x1).bind fun (r21:Int×LL)=>
 if x7=true then
 (g43 x5).bind fun (r23:LL)=>
 Zu ((0:Int)≤r11.1)<|
 Zu ((r11.1:Int) < (List.length r21.2:Int))<|
 Zu ((0:Int)≤r11.1)<|
 Zu (qop (.nst 2 4 41) r21.2 r11.1=true)<|
 Zu (YW (Wt r21.2 (Int.toNat r11.1) 2) (E0++[[AV.val (.int .i64 (iop .add .i64 r21.1 1)),AV.val (.int .i64 x4),AV.slice false 1 r23,AV.val (.int .i64 x6)]]) 48)<|
 Zu ((0:Int)≤r11.1)<|
 Zu ((r11.1:Int) < (List.length (Yl r21.2 (Int.toNat r11.1) 2 (AV.nest 4 false 41 E0)):Int))<|
 Zu ((0:Int)≤r11.1)<|
 Zu ((r11.1:Int) < (List.length (Yl r21.2 (Int.toNat r11.1) 2 (AV.nest 4 false 41 E0)):Int))<|
 some ((iop .add .i64 r21.1 1),(Zai (Yl (Yl r21.2 (Int.toNat r11.1) 2 (AV.nest 4 false 41 E0)) (Int.toNat r11.1) 2 (AV.nest 4 true 41 ((Wt r21.2 (Int.toNat r11.1) 2)++(E0++[[AV.val (.int .i64 (iop .add .i64 r21.1 1)),AV.val (.int .i64 x4),AV.slice false 1 r23,AV.val (.int .i64 x6)]]))))),0)
 else
 (g43 x5).bind fun (r23:LL)=>
 Zu ((0:Int)≤r11.1)<|
 Zu ((r11.1:Int) < (List.length r21.2:Int))<|
 Zu ((0:Int)≤r11.1)<|
 Zu (qop (.nst 2 4 41) r21.2 r11.1=true)<|
 Zu (YW (Wt r21.2 (Int.toNat r11.1) 2) (E0++[[AV.val (.int .i64 x3),AV.val (.int .i64 x4),AV.slice false 1 r23,AV.val (.int .i64 x6)]]) 48)<|
 Zu ((0:Int)≤r11.1)<|
 Zu ((r11.1:Int) < (List.length (Yl r21.2 (Int.toNat r11.1) 2 (AV.nest 4 false 41 E0)):Int))<|
 Zu ((0:Int)≤r11.1)<|
 Zu ((r11.1:Int) < (List.length (Yl r21.2 (Int.toNat r11.1) 2 (AV.nest 4 false 41 E0)):Int))<|
 some (r21.1,(Zai (Yl (Yl r21.2 (Int.toNat r11.1) 2 (AV.nest 4 false 41 E0)) (Int.toNat r11.1) 2 (AV.nest 4 true 41 ((Wt r21.2 (Int.toNat r11.1) 2)++(E0++[[AV.val (.int .i64 x3),AV.val (.int .i64 x4),AV.slice false 1 r23,AV.val (.int .i64 x6)]]))))),0)
 else
 (g40 x0 x1).bind fun (r21:Int×LL)=>
 if x7=true then
 (g43 x5).bind fun (r23:LL)=>
 Zu ((0:Int)≤r11.1)<|
 Zu ((r11.1:Int) < (List.length r21.2:Int))<|
 Zu ((0:Int)≤r11.1)<|
 Zu (qop (.nst 2 4 41) r21.2 r11.1=true)<|
 Zu (YW (Wt r21.2 (Int.toNat r11.1) 2) (E0++[[AV.val (.int .i64 (iop .add .i64 r21.1 1)),AV.val (.int .i64 x4),AV.slice false 1 r23,AV.val (.int .i64 x6)]]) 48)<|
 Zu ((0:Int)≤r11.1)<|
 Zu ((r11.1:Int) < (List.length (Yl r21.2 (Int.toNat r11.1) 2 (AV.nest 4 false 41 E0)):Int))<|
 Zu ((0:Int)≤r11.1)<|
 Zu ((r11.1:Int) < (List.length (Yl r21.2 (Int.toNat r11.1) 2 (AV.nest 4 false 41 E0)):Int))<|
 some ((iop .add .i64 r21.1 1),(Zai (Yl (Yl r21.2 (Int.toNat r11.1) 2 (AV.nest 4 false 41 E0)) (Int.toNat r11.1) 2 (AV.nest 4 true 41 ((Wt r21.2 (Int.toNat r11.1) 2)++(E0++[[AV.val (.int .i64 (iop .add .i64 r21.1 1)),AV.val (.int .i64 x4),AV.slice false 1 r23,AV.val (.int .i64 x6)]]))))),0)
 else
 (g43 x5).bind fun (r23:LL)=>
 Zu ((0:Int)≤r11.1)<|
 Zu ((r11.1:Int) < (List.length r21.2:Int))<|
 Zu ((0:Int)≤r11.1)<|
 Zu (qop (.nst 2 4 41) r21.2 r11.1=true)<|
 Zu (YW (Wt r21.2 (Int.toNat r11.1) 2) (E0++[[AV.val (.int .i64 x3),AV.val (.int .i64 x4),AV.slice false 1 r23,AV.val (.int .i64 x6)]]) 48)<|
 Zu ((0:Int)≤r11.1)<|
 Zu ((r11.1:Int) < (List.length (Yl r21.2 (Int.toNat r11.1) 2 (AV.nest 4 false 41 E0)):Int))<|
 Zu ((0:Int)≤r11.1)<|
 Zu ((r11.1:Int) < (List.length (Yl r21.2 (Int.toNat r11.1) 2 (AV.nest 4 false 41 E0)):Int))<|
 some (r21.1,(Zai (Yl (Yl r21.2 (Int.toNat r11.1) 2 (AV.nest 4 false 41 E0)) (Int.toNat r11.1) 2 (AV.nest 4 true 41 ((Wt r21.2 (Int.toNat r11.1) 2)++(E0++[[AV.val (.int .i64 x3),AV.val (.int .i64 x4),AV.slice false 1 r23,AV.val (.int .i64 x6)]]))))),0)
 else
 if x7=true then
 if (cop .eql x0 1099511627776)=true then
 some (0,E0,15)
 else
 (g40 x0 x1).bind fun (r17:Int×LL)=>
 if x7=true then
 (g43 x5).bind fun (r19:LL)=>
 Zu ((0:Int)≤r11.1)<|
 Zu ((r11.1:Int) < (List.length r17.2:Int))<|
 Zu ((0:Int)≤r11.1)<|
 Zu (qop (.nst 2 4 41) r17.2 r11.1=true)<|
 Zu (YW (Wt r17.2 (Int.toNat r11.1) 2) (E0++[[AV.val (.int .i64 (iop .add .i64 r17.1 1)),AV.val (.int .i64 x4),AV.slice false 1 r19,AV.val (.int .i64 x6)]]) 48)<|
 Zu ((0:Int)≤r11.1)<|
 Zu ((r11.1:Int) < (List.length (Yl r17.2 (Int.toNat r11.1) 2 (AV.nest 4 false 41 E0)):Int))<|
 Zu ((0:Int)≤r11.1)<|
 Zu ((r11.1:Int) < (List.length (Yl r17.2 (Int.toNat r11.1) 2 (AV.nest 4 false 41 E0)):Int))<|
 some ((iop .add .i64 r17.1 1),(Zai (Yl (Yl r17.2 (Int.toNat r11.1) 2 (AV.nest 4 false 41 E0)) (Int.toNat r11.1) 2 (AV.nest 4 true 41 ((Wt r17.2 (Int.toNat r11.1) 2)++(E0++[[AV.val (.int .i64 (iop .add .i64 r17.1 1)),AV.val (.int .i64 x4),AV.slice false 1 r19,AV.val (.int .i64 x6)]]))))),0)
 else
 (g43 x5).bind fun (r19:LL)=>
 Zu ((0:Int)≤r11.1)<|
 Zu ((r11.1:Int) < (List.length r17.2:Int))<|
 Zu ((0:Int)≤r11.1)<|
 Zu (qop (.nst 2 4 41) r17.2 r11.1=true)<|
 Zu (YW (Wt r17.2 (Int.toNat r11.1) 2) (E0++[[AV.val (.int .i64 x3),AV.val (.int .i64 x4),AV.slice false 1 r19,AV.val (.int .i64 x6)]]) 48)<|
 Zu ((0:Int)≤r11.1)<|
 Zu ((r11.1:Int) < (List.length (Yl r17.2 (Int.toNat r11.1) 2 (AV.nest 4 false 41 E0)):Int))<|
 Zu ((0:Int)≤r11.1)<|
 Zu ((r11.1:Int) < (List.length (Yl r17.2 (Int.toNat r11.1) 2 (AV.nest 4 false 41 E0)):Int))<|
 some (r17.1,(Zai (Yl (Yl r17.2 (Int.toNat r11.1) 2 (AV.nest 4 false 41 E0)) (Int.toNat r11.1) 2 (AV.nest 4 true 41 ((Wt r17.2 (Int.toNat r11.1) 2)++(E0++[[AV.val (.int .i64 x3),AV.val (.int .i64 x4),AV.slice false 1 r19,AV.val (.int .i64 x6)]]))))),0)
 else
 (g40 x0 x1).bind fun (r17:Int×LL)=>
 if x7=true then
 (g43 x5).bind fun (r19:LL)=>
 Zu ((0:Int)≤r11.1)<|
 Zu ((r11.1:Int) < (List.length r17.2:Int))<|
 Zu ((0:Int)≤r11.1)<|
 Zu (qop (.nst 2 4 41) r17.2 r11.1=true)<|
 Zu (YW (Wt r17.2 (Int.toNat r11.1) 2) (E0++[[AV.val (.int .i64 (iop .add .i64 r17.1 1)),AV.val (.int .i64 x4),AV.slice false 1 r19,AV.val (.int .i64 x6)]]) 48)<|
 Zu ((0:Int)≤r11.1)<|
 Zu ((r11.1:Int) < (List.length (Yl r17.2 (Int.toNat r11.1) 2 (AV.nest 4 false 41 E0)):Int))<|
 Zu ((0:Int)≤r11.1)<|
 Zu ((r11.1:Int) < (List.length (Yl r17.2 (Int.toNat r11.1) 2 (AV.nest 4 false 41 E0)):Int))<|
 some ((iop .add .i64 r17.1 1),(Zai (Yl (Yl r17.2 (Int.toNat r11.1) 2 (AV.nest 4 false 41 E0)) (Int.toNat r11.1) 2 (AV.nest 4 true 41 ((Wt r17.2 (Int.toNat r11.1) 2)++(E0++[[AV.val (.int .i64 (iop .add .i64 r17.1 1)),AV.val (.int .i64 x4),AV.slice false 1 r19,AV.val (.int .i64 x6)]]))))),0)
 else
 (g43 x5).bind fun (r19:LL)=>
 Zu ((0:Int)≤r11.1)<|
 Zu ((r11.1:Int) < (List.length r17.2:Int))<|
 Zu ((0:Int)≤r11.1)<|
 Zu (qop (.nst 2 4 41) r17.2 r11.1=true)<|
 Zu (YW (Wt r17.2 (Int.toNat r11.1) 2) (E0++[[AV.val (.int .i64 x3),AV.val (.int .i64 x4),AV.slice false 1 r19,AV.val (.int .i64 x6)]]) 48)<|
 Zu ((0:Int)≤r11.1)<|
 Zu ((r11.1:Int) < (List.length (Yl r17.2 (Int.toNat r11.1) 2 (AV.nest 4 false 41 E0)):Int))<|
 Zu ((0:Int)≤r11.1)<|
 Zu ((r11.1:Int) < (List.length (Yl r17.2 (Int.toNat r11.1) 2 (AV.nest 4 false 41 E0)):Int))<|
 some (r17.1,(Zai (Yl (Yl r17.2 (Int.toNat r11.1) 2 (AV.nest 4 false 41 E0)) (Int.toNat r11.1) 2 (AV.nest 4 true 41 ((Wt r17.2 (Int.toNat r11.1) 2)++(E0++[[AV.val (.int .i64 x3),AV.val (.int .i64 x4),AV.slice false 1 r19,AV.val (.int .i64 x6)]]))))),0)):=by kernel_rfl
noncomputable def F13:Fn:=⟨21,[10,11],[],[],0,[],[],Try.f13,[.agg [.int .i64,.slice 4],.c (.int .i64),.c (.int .i64),.c (.slice 1),.c (.int .i64)],[.agg [.int .i64,.slice 4],.c (.int .i64)],[(42,F42.S)]⟩
theorem ZoB:F13.S.Ok Try.prog 13:=F13.ok Try.func13 (by kernel_rfl) ⟨Zon,trivial⟩
noncomputable def g13 (x0:Int) (x1:LL) (x2:Int) (x3:Int) (x4:LL) (x5:Int):Option (Int×LL×Int):=F13.S.g [.i x0,.l x1,.i x2,.i x3,.l x4,.i x5]
theorem Zns (x0:Int) (x1:LL) (x2:Int) (x3:Int) (x4:LL) (x5:Int):g13 x0 x1 x2 x3 x4 x5 =
 ((g42 x0 x1 x2 0 x3 x4 x5 false).bind fun (r6:Int×LL×Int)=>
 some (r6.1,r6.2.1,r6.2.2)):=by kernel_rfl
noncomputable def F12:Fn:=⟨27,[10,11,12],[],[],0,[],[],Try.f12,[.agg [.int .i64,.slice 4],.c (.int .i64),.c (.int .i64),.c (.slice 1),.c (.int .i64)],[.agg [.int .i64,.slice 4],.c (.int .i64),.c (.int .i64)],[(42,F42.S)]⟩
theorem Zod:F12.S.Ok Try.prog 12:=F12.ok Try.func12 (by kernel_rfl) ⟨Zon,trivial⟩
noncomputable def g12 (x0:Int) (x1:LL) (x2:Int) (x3:Int) (x4:LL) (x5:Int):Option (Int×LL×Int×Int):=F12.S.g [.i x0,.l x1,.i x2,.i x3,.l x4,.i x5]
theorem Znt (x0:Int) (x1:LL) (x2:Int) (x3:Int) (x4:LL) (x5:Int):g12 x0 x1 x2 x3 x4 x5 =
 ((g42 x0 x1 x2 0 x3 x4 x5 true).bind fun (r6:Int×LL×Int)=>
 some (r6.1,r6.2.1,r6.1,r6.2.2)):=by kernel_rfl
end Go.Proofs.Ytigknndkmlhmfaa
end

section
namespace Go.Proofs.Ytigknndkmlhmfaa
open Go Go.AM
set_option linter.unusedVariables false
set_option maxRecDepth 100000
noncomputable def F14:Fn:=⟨92,[6,7,8],[],[],0,[],[(17,[(11,2),(11,2)])],Try.f14,[.agg [.int .i64,.slice 4],.c (.int .i64),.c (.int .i64)],[.agg [.int .i64,.slice 4],.agg [.int .i64,.int .i64,.slice 1,.int .i64],.c (.int .i64)],[(22,F22.S),(39,F39.S),(40,F40.S),(43,F43.S)]⟩
theorem Zoc:F14.S.Ok Try.prog 14:=F14.ok Try.func14 (by kernel_rfl) ⟨Zm0,⟨Zoa,⟨ZnA,⟨ZnD,trivial⟩⟩⟩⟩
noncomputable def g14 (x0:Int) (x1:LL) (x2:Int) (x3:Int):Option (Int×LL×Int×Int×LL×Int×Int):=F14.S.g [.i x0,.l x1,.i x2,.i x3]
theorem ZkQ (x0:Int) (x1:LL) (x2:Int) (x3:Int):g14 x0 x1 x2 x3 =
 ((g22 x0 x1).bind fun (r4:Bool)=>
 if (!r4)=true then
 some (0,E0,0,0,E0,0,74)
 else
 (g39 x0 x1).bind fun (r5:LL)=>
 Zu (qop .mapv r5 0=true)<|
 ZN (ZbN r5 x2 [AV.val (.int .i64 0)]) 0 [.int .i64,.bool] fun (r6:Int×Bool)=>
 if (!r6.2)=true then
 some (0,E0,0,0,E0,0,17)
 else
 ZN x1 r6.1 [.int .i64,.int .i64,.slice 4,.slice 4] fun (r8:Int×Int×LL×LL)=>
 if (cop .neq r8.2.1 x3)=true then
 some (0,E0,0,0,E0,0,8)
 else
 ZN x1 r6.1 [.int .i64,.int .i64,.slice 4,.slice 4] fun (r12:Int×Int×LL×LL)=>
 if (cop .eql (List.length r12.2.2.1:Int) 0)=true then
 some (0,E0,0,0,E0,0,2)
 else
 (g40 x0 x1).bind fun (r16:Int×LL)=>
 Zu ((0:Int)≤r6.1)<|
 Zu ((r6.1:Int) < (List.length r16.2:Int))<|
 ZN (Zjv (KD r16.2 (Int.toNat r6.1) 2 1) 2 1) r6.1 [.slice 4] fun (r18:LL)=>
 ZN r18 0 [.int .i64,.int .i64,.slice 1,.int .i64] fun (r19:Int×Int×LL×Int)=>
 ZN (Zjv (KD (KD r16.2 (Int.toNat r6.1) 2 1) (Int.toNat r6.1) 2 1) 2 1) r6.1 [.slice 4] fun (r23:LL)=>
 Zu ((0:Int)≤1)<|
 Zu ((1:Int)≤(List.length r23:Int))<|
 Zu ((0:Int)≤r6.1)<|
 Zu ((r6.1:Int) < (List.length (KD (KD r16.2 (Int.toNat r6.1) 2 1) (Int.toNat r6.1) 2 1):Int))<|
 if (cop .gtr r19.1 0)=true then
 Zu ((0:Int)≤r6.1)<|
 Zu (qop (.nst 3 4 41) (ZD (KD (KD r16.2 (Int.toNat r6.1) 2 1) (Int.toNat r6.1) 2 1) (Int.toNat r6.1) 2 [AV.slice false 4 (List.drop (Int.toNat 1) r23)]) r6.1=true)<|
 Zu (YW (Wt (ZD (KD (KD r16.2 (Int.toNat r6.1) 2 1) (Int.toNat r6.1) 2 1) (Int.toNat r6.1) 2 [AV.slice false 4 (List.drop (Int.toNat 1) r23)]) (Int.toNat r6.1) 3) (E0++[[AV.val (.int .i64 r19.1),AV.val (.int .i64 r19.2.1),AV.slice false 1 r19.2.2.1,AV.val (.int .i64 r19.2.2.2)]]) 48)<|
 Zu ((0:Int)≤r6.1)<|
 Zu ((r6.1:Int) < (List.length (Yl (ZD (KD (KD r16.2 (Int.toNat r6.1) 2 1) (Int.toNat r6.1) 2 1) (Int.toNat r6.1) 2 [AV.slice false 4 (List.drop (Int.toNat 1) r23)]) (Int.toNat r6.1) 3 (AV.nest 4 false 41 E0)):Int))<|
 (g43 r19.2.2.1).bind fun (r24:LL)=>
 some (r16.1,(Zai (Yl (Yl (ZD (KD (KD r16.2 (Int.toNat r6.1) 2 1) (Int.toNat r6.1) 2 1) (Int.toNat r6.1) 2 [AV.slice false 4 (List.drop (Int.toNat 1) r23)]) (Int.toNat r6.1) 3 (AV.nest 4 false 41 E0)) (Int.toNat r6.1) 3 (AV.nest 4 true 41 ((Wt (ZD (KD (KD r16.2 (Int.toNat r6.1) 2 1) (Int.toNat r6.1) 2 1) (Int.toNat r6.1) 2 [AV.slice false 4 (List.drop (Int.toNat 1) r23)]) (Int.toNat r6.1) 3)++(E0++[[AV.val (.int .i64 r19.1),AV.val (.int .i64 r19.2.1),AV.slice false 1 r19.2.2.1,AV.val (.int .i64 r19.2.2.2)]]))))),r19.1,r19.2.1,r24,r19.2.2.2,0)
 else
 some (r16.1,(Zai (ZD (KD (KD r16.2 (Int.toNat r6.1) 2 1) (Int.toNat r6.1) 2 1) (Int.toNat r6.1) 2 [AV.slice false 4 (List.drop (Int.toNat 1) r23)])),r19.1,r19.2.1,r19.2.2.1,r19.2.2.2,0)):=by kernel_rfl
end Go.Proofs.Ytigknndkmlhmfaa
end

section
namespace Go.Proofs.Ytigknndkmlhmfaa
open Go Go.AM
set_option linter.unusedVariables false
set_option maxRecDepth 100000
noncomputable def F48.S:Fun:=Zoe true 41
theorem ZoF:F48.S.Ok Try.prog 48:=delF_ok (T:=62) (B:=4) (I:=3) (U:=0) (e:=41) (bytes:=48) mixed (by kernel_rfl) Try.func48 (by kernel_rfl) ⟨by kernel_rfl,by kernel_rfl,by kernel_rfl⟩
noncomputable def F47:Fn:=⟨8,[3],[],[1],0,[],[],Try.f47,[.agg [.int .i64,.int .i64,.slice 1,.int .i64],.box [.int .i64]],[.c (.bool)],[]⟩
theorem ZoC:F47.S.Ok Try.prog 47:=F47.ok Try.func47 (by kernel_rfl) trivial
noncomputable def ZhC:Fn:=⟨19,[4],[(2,[(0,.c (.slice 4)),(1,.clo 47 [19]),(7,.c (.int .i64)),(8,.c (.int .i64)),(19,.gbox [.int .i64])])],[],1,[],[],Try.f46,[.c (.slice 4),.clo 47 [19],.dead,.dead,.dead,.dead,.dead,.dead,.dead,.dead,.dead,.dead,.dead,.dead,.dead,.dead,.dead,.dead,.dead,.gbox [.int .i64]],[.c (.int .i64)],[(47,F47.S)]⟩
theorem Zmh:ZhC.S.Ok Try.prog 46:=ZhC.ok Try.func46 (by kernel_rfl) ⟨ZoC,trivial⟩
noncomputable def F17:Fn:=⟨76,[8,9,10],[(6,[(2,.c (.int .i64)),(3,.c (.slice 1)),(4,.box [.int .i64,.slice 4]),(5,.box [.int .i64]),(8,.box [.int .i64,.slice 4]),(9,.box [.int .i64,.int .i64,.int .i64,.slice 1]),(26,.c (.slice 4)),(27,.c (.int .i64)),(28,.c (.int .i64))])],[],0,[],[(14,[(14,2),(14,2)])],Try.f17,[.agg [.int .i64,.slice 4],.c (.int .i64),.c (.int .i64),.c (.slice 1)],[.agg [.int .i64,.slice 4],.agg [.int .i64,.int .i64,.int .i64,.slice 1],.c (.int .i64)],[(22,F22.S),(46,ZhC.S),(40,F40.S),(48,F48.S),(43,F43.S)]⟩
theorem Zov:F17.S.Ok Try.prog 17:=F17.ok Try.func17 (by kernel_rfl) ⟨Zm0,⟨Zmh,⟨ZnA,⟨ZoF,⟨ZnD,trivial⟩⟩⟩⟩⟩
end Go.Proofs.Ytigknndkmlhmfaa
end

section
namespace Go.Proofs.Ytigknndkmlhmfaa
open Go Go.AM
set_option linter.unusedVariables false
set_option maxRecDepth 100000
noncomputable def F10:Fn:=⟨2,[0],[],[],0,[],[],Try.f10,[],[.agg [.int .i64,.slice 4]],[]⟩
theorem Zob:F10.S.Ok Try.prog 10:=F10.ok Try.func10 (by kernel_rfl) trivial
noncomputable def g10:Option (Int×LL):=F10.S.g []
theorem Zm5:g10 =
 (some (0,E0)):=by kernel_rfl
noncomputable def F41.S:Fun:=Zol false 80 64
theorem Zox:F41.S.Ok Try.prog 41:=insF_ok (T:=26) (B:=4) (I:=3) (e:=80) (fO:=67) (fR:=68) mixed (by kernel_rfl) Try.func41 (by kernel_rfl) ⟨by kernel_rfl,by kernel_rfl,by kernel_rfl⟩ Try.func67 (by kernel_rfl) (by kernel_rfl) (by kernel_rfl) (by kernel_rfl)
noncomputable def g41 (x0:LL) (x1:Int) (x2:LL):Option LL:=F41.S.g [.l x0,.i x1,.l x2]
theorem ZmR (x0:LL) (x1:Int) (x2:LL):g41 x0 x1 x2=Zn5 64 x0 x1 x2:=rfl
noncomputable def F9:Fn:=⟨68,[6,7],[(11,[(1,.c (.int .i64)),(2,.c (.int .i64)),(3,.box [.int .i64,.slice 4]),(6,.box [.int .i64,.slice 4]),(10,.c (.int .i64))])],[],0,[],[(14,[(11,2)])],Try.f9,[.agg [.int .i64,.slice 4],.c (.int .i64),.c (.int .i64)],[.agg [.int .i64,.slice 4],.c (.int .i64)],[(22,F22.S),(37,F37.S),(38,F38.S),(39,F39.S),(40,F40.S),(41,F41.S)]⟩
theorem ok9:F9.S.Ok Try.prog 9:=F9.ok Try.func9 (by kernel_rfl) ⟨Zm0,⟨Zoo,⟨ZnX,⟨Zoa,⟨ZnA,⟨Zox,trivial⟩⟩⟩⟩⟩⟩
noncomputable def g9 (x0:Int) (x1:LL) (x2:Int) (x3:Int):Option (Int×LL×Int):=F9.S.g [.i x0,.l x1,.i x2,.i x3]
noncomputable def Zn0 (k:Nat) (x0:Int) (x1:Int) (x2:Int) (x3:LL) (x4:Int) (x5:LL) (x6:Int):Option (Int×LL×Int):=F9.lp [0,1,0,1,0,1,3,1,1,0] 0 r0 k [.i x0,.i x1,.i x2,.l x3,.i x4,.l x5,.i x6]
theorem ZlX (k:Nat) (x0:Int) (x1:Int) (x2:Int) (x3:LL) (x4:Int) (x5:LL) (x6:Int):Zn0 (k+1) x0 x1 x2 x3 x4 x5 x6 =
 (if (cop .lss x6 (List.length x3:Int))=true then
 ZN x3 x6 [.int .i64,.int .i64,.slice 4,.slice 4] fun (r7:Int×Int×LL×LL)=>
 if (cop .lss r7.1 x0)=true then
 Zn0 k x0 x1 x2 x3 x4 x5 (iop .add .i64 x6 1)
 else
 (g40 x2 x3).bind fun (r11:Int×LL)=>
 (g41 (Zai r11.2) x6 (E0++[[AV.val (.int .i64 x0),AV.val (.int .i64 x1),AV.slice false 4 E0,AV.slice false 4 E0]])).bind fun (r13:LL)=>
 some (r11.1,r13,0)
 else
 (g40 x2 x3).bind fun (r7:Int×LL)=>
 (g41 (Zai r7.2) x6 (E0++[[AV.val (.int .i64 x0),AV.val (.int .i64 x1),AV.slice false 4 E0,AV.slice false 4 E0]])).bind fun (r9:LL)=>
 some (r7.1,r9,0)):=by kernel_rfl
theorem ZnW (x0:Int) (x1:LL) (x2:Int) (x3:Int):g9 x0 x1 x2 x3 =
 ((g22 x0 x1).bind fun (r4:Bool)=>
 if (!r4)=true then
 some (0,E0,74)
 else
 (g37 x2).bind fun (r5:Bool)=>
 if (!r5)=true then
 some (0,E0,1)
 else
 (g38 x3).bind fun (r6:Bool)=>
 if (!r6)=true then
 some (0,E0,1)
 else
 (g39 x0 x1).bind fun (r7:LL)=>
 Zu (qop .mapv r7 0=true)<|
 ZN (ZbN r7 x2 [AV.val (.int .i64 0)]) 0 [.int .i64,.bool] fun (r8:Int×Bool)=>
 if r8.2=true then
 some (0,E0,56)
 else
 if (cop .eql (List.length x1:Int) 32)=true then
 some (0,E0,15)
 else
 Zn0 WW x2 x3 x0 x1 0 E0 0):=by kernel_rfl
end Go.Proofs.Ytigknndkmlhmfaa
end

section
namespace Go.Proofs.Ytigknndkmlhmfaa
open Go Go.AM
set_option linter.unusedVariables false
set_option maxRecDepth 100000
noncomputable def F8:Fn:=⟨90,[0],[],[],0,[],[],Try.f8,[],[.c (.bool)],[(10,F10.S),(9,F9.S),(12,F12.S),(14,F14.S),(17,F17.S),(22,F22.S)]⟩
theorem ok8:F8.S.Ok Try.prog 8:=F8.ok Try.func8 (by kernel_rfl) ⟨Zob,⟨ok9,⟨Zod,⟨Zoc,⟨Zov,⟨Zm0,trivial⟩⟩⟩⟩⟩⟩
noncomputable def g8:Option (Bool):=F8.S.g []
end Go.Proofs.Ytigknndkmlhmfaa
end

section
namespace Go.Proofs.Ytigknndkmlhmfaa
open Go Go.AM
set_option linter.unusedVariables false
set_option maxRecDepth 100000
end Go.Proofs.Ytigknndkmlhmfaa
end

section
namespace Go.Proofs.Ytigknndkmlhmfaa
open Go Go.AM
set_option linter.unusedVariables false
set_option maxRecDepth 100000
noncomputable def F15:Fn:=⟨15,[4],[],[],0,[],[],Try.f15,[.c (.int .i64),.c (.int .i64)],[.c (.int .i64)],[]⟩
theorem Zos:F15.S.Ok Try.prog 15:=F15.ok Try.func15 (by kernel_rfl) trivial
noncomputable def g15 (x0:Int) (x1:Int):Option (Int):=F15.S.g [.i x0,.i x1]
theorem ZmF (x0:Int) (x1:Int):g15 x0 x1 =
 (Zu ((x1:Int)≠0)<|
 if (cop .lss (iop .rem .i64 x0 x1) 0)=true then
 some ((iop .add .i64 (iop .rem .i64 x0 x1) x1))
 else
 some ((iop .rem .i64 x0 x1))):=by kernel_rfl
noncomputable def F11:Fn:=⟨53,[4],[],[0],0,[],[],Try.f11,[.box [.slice 1,.int .i64],.c (.int .i64)],[.c (.int .i64)],[(15,F15.S)]⟩
theorem Zow:F11.S.Ok Try.prog 11:=F11.ok Try.func11 (by kernel_rfl) ⟨Zos,trivial⟩
noncomputable def g11 (x0:LL) (x1:Int) (x2:Int):Option (Int×LL×Int):=F11.S.g [.l x0,.i x1,.i x2]
theorem ZmY (x0:LL) (x1:Int) (x2:Int):g11 x0 x1 x2 =
 (if (cop .gtr (List.length x0:Int) 0)=true then
 Zu (((List.length x0:Int):Int)≠0)<|
 ZN x0 (iop .rem .i64 x1 (List.length x0:Int)) [.int .i64] fun (r3:Int)=>
 (g15 r3 1073741824).bind fun (r4:Int)=>
 Zu (((iop .max .i64 (List.length x0:Int) 1):Int)≠0)<|
 Zu ((x2:Int)≠0)<|
 some ((iop .rem .i64 (iop .add .i64 r4 (iop .mul .i64 7 (iop .quo .i64 x1 (iop .max .i64 (List.length x0:Int) 1)))) x2),x0,(iop .add .i64 x1 1))
 else
 Zu (((iop .max .i64 (List.length x0:Int) 1):Int)≠0)<|
 Zu ((x2:Int)≠0)<|
 some ((iop .rem .i64 (iop .add .i64 0 (iop .mul .i64 7 (iop .quo .i64 x1 (iop .max .i64 (List.length x0:Int) 1)))) x2),x0,(iop .add .i64 x1 1))):=by kernel_rfl
end Go.Proofs.Ytigknndkmlhmfaa
end

section
namespace Go.Proofs.Ytigknndkmlhmfaa
open Go Go.AM
set_option linter.unusedVariables false
set_option maxRecDepth 100000
noncomputable def F3:Fn:=⟨156,[6],[(9,[(0,.c (.slice 1)),(1,.c (.slice 1)),(7,.box [.int .i64,.slice 4]),(9,.ptr 36 0),(10,.c (.int .i64)),(11,.c (.int .i64)),(36,.box [.slice 1,.int .i64])])],[],0,[],[],Try.f3,[.c (.slice 1),.c (.slice 1),.c (.slice 1)],[.c (.bool)],[(8,F8.S),(10,F10.S),(9,F9.S),(11,F11.S),(12,F12.S),(13,F13.S),(14,F14.S)]⟩
theorem ok3:F3.S.Ok Try.prog 3:=F3.ok Try.func3 (by kernel_rfl) ⟨ok8,⟨Zob,⟨ok9,⟨Zow,⟨Zod,⟨ZoB,⟨Zoc,trivial⟩⟩⟩⟩⟩⟩⟩
noncomputable def g3 (x0:LL) (x1:LL) (x2:LL):Option (Bool):=F3.S.g [.l x0,.l x1,.l x2]
noncomputable def ZbQ (k:Nat) (x0:LL) (x1:LL) (x2:Int) (x3:LL) (x4:Int) (x5:Int) (x6:LL) (x7:Int):Option (Bool):=F3.lp [1,1,2,1,0] 0 r0 k [.l x0,.l x1,.i x2,.l x3,.i x4,.i x5,.l x6,.i x7]
theorem ZhM (k:Nat) (x0:LL) (x1:LL) (x2:Int) (x3:LL) (x4:Int) (x5:Int) (x6:LL) (x7:Int):ZbQ (k+1) x0 x1 x2 x3 x4 x5 x6 x7 =
 (if (cop .lss x5 (List.length x0:Int))=true then
 if (cop .lss x5 (List.length x0:Int))=true then
 if (cop .lss (iop .sub .i64 x5 x4) 8)=true then
 (g11 x6 x7 2).bind fun (r8:Int×LL×Int)=>
 if (cop .eql r8.1 0)=true then
 ZN x1 x5 [.bool] fun (r11:Bool)=>
 if r11=true then
 Zu ((5:Int)≠0)<|
 Zu ((0:Int)≤x5)<|
 Zu ((x5:Int)≤(iop .add .i64 x5 1))<|
 Zu (((iop .add .i64 x5 1):Int)≤(List.length x0:Int))<|
 (g12 x2 x3 128 (iop .rem .i64 x5 5) (List.drop (Int.toNat x5) (List.take (Int.toNat (iop .add .i64 x5 1)) x0)) (-1)).bind fun (r12:Int×LL×Int×Int)=>
 if (cop .neq r12.2.2.2 0)=true then
 some (false)
 else
 ZbQ k x0 x1 r12.1 r12.2.1 x4 (iop .add .i64 x5 1) r8.2.1 r8.2.2
 else
 Zu ((5:Int)≠0)<|
 Zu ((0:Int)≤x5)<|
 Zu ((x5:Int)≤(iop .add .i64 x5 1))<|
 Zu (((iop .add .i64 x5 1):Int)≤(List.length x0:Int))<|
 (g13 x2 x3 128 (iop .rem .i64 x5 5) (List.drop (Int.toNat x5) (List.take (Int.toNat (iop .add .i64 x5 1)) x0)) (-1)).bind fun (r12:Int×LL×Int)=>
 if (cop .neq r12.2.2 0)=true then
 some (false)
 else
 ZbQ k x0 x1 r12.1 r12.2.1 x4 (iop .add .i64 x5 1) r8.2.1 r8.2.2
 else
 if (cop .eql x4 x5)=true then
 ZN x1 x5 [.bool] fun (r11:Bool)=>
 if r11=true then
 Zu ((5:Int)≠0)<|
 Zu ((0:Int)≤x5)<|
 Zu ((x5:Int)≤(iop .add .i64 x5 1))<|
 Zu (((iop .add .i64 x5 1):Int)≤(List.length x0:Int))<|
 (g12 x2 x3 128 (iop .rem .i64 x5 5) (List.drop (Int.toNat x5) (List.take (Int.toNat (iop .add .i64 x5 1)) x0)) (-1)).bind fun (r12:Int×LL×Int×Int)=>
 if (cop .neq r12.2.2.2 0)=true then
 some (false)
 else
 ZbQ k x0 x1 r12.1 r12.2.1 x4 (iop .add .i64 x5 1) r8.2.1 r8.2.2
 else
 Zu ((5:Int)≠0)<|
 Zu ((0:Int)≤x5)<|
 Zu ((x5:Int)≤(iop .add .i64 x5 1))<|
 Zu (((iop .add .i64 x5 1):Int)≤(List.length x0:Int))<|
 (g13 x2 x3 128 (iop .rem .i64 x5 5) (List.drop (Int.toNat x5) (List.take (Int.toNat (iop .add .i64 x5 1)) x0)) (-1)).bind fun (r12:Int×LL×Int)=>
 if (cop .neq r12.2.2 0)=true then
 some (false)
 else
 ZbQ k x0 x1 r12.1 r12.2.1 x4 (iop .add .i64 x5 1) r8.2.1 r8.2.2
 else
 (g14 x2 x3 128 7).bind fun (r11:Int×LL×Int×Int×LL×Int×Int)=>
 if (cop .neq r11.2.2.2.2.2.2 0)=true then
 some (false)
 else
 if (cop .neq (List.length r11.2.2.2.2.1:Int) 1)=true then
 some (false)
 else
 ZN r11.2.2.2.2.1 0 [.int .u64] fun (r18:Int)=>
 ZN x0 x4 [.int .u64] fun (r19:Int)=>
 if (cop .neq r18 r19)=true then
 some (false)
 else
 Zu ((5:Int)≠0)<|
 if (cop .neq r11.2.2.2.1 (iop .rem .i64 x4 5))=true then
 some (false)
 else
 ZN x1 x4 [.bool] fun (r20:Bool)=>
 if (!((cop .gtr r11.2.2.1 0) == r20))=true then
 some (false)
 else
 ZbQ k x0 x1 r11.1 r11.2.1 (iop .add .i64 x4 1) x5 r8.2.1 r8.2.2
 else
 (g14 x2 x3 128 7).bind fun (r8:Int×LL×Int×Int×LL×Int×Int)=>
 if (cop .neq r8.2.2.2.2.2.2 0)=true then
 some (false)
 else
 if (cop .neq (List.length r8.2.2.2.2.1:Int) 1)=true then
 some (false)
 else
 ZN r8.2.2.2.2.1 0 [.int .u64] fun (r15:Int)=>
 ZN x0 x4 [.int .u64] fun (r16:Int)=>
 if (cop .neq r15 r16)=true then
 some (false)
 else
 Zu ((5:Int)≠0)<|
 if (cop .neq r8.2.2.2.1 (iop .rem .i64 x4 5))=true then
 some (false)
 else
 ZN x1 x4 [.bool] fun (r17:Bool)=>
 if (!((cop .gtr r8.2.2.1 0) == r17))=true then
 some (false)
 else
 ZbQ k x0 x1 r8.1 r8.2.1 (iop .add .i64 x4 1) x5 x6 x7
 else
 (g14 x2 x3 128 7).bind fun (r8:Int×LL×Int×Int×LL×Int×Int)=>
 if (cop .neq r8.2.2.2.2.2.2 0)=true then
 some (false)
 else
 if (cop .neq (List.length r8.2.2.2.2.1:Int) 1)=true then
 some (false)
 else
 ZN r8.2.2.2.2.1 0 [.int .u64] fun (r15:Int)=>
 ZN x0 x4 [.int .u64] fun (r16:Int)=>
 if (cop .neq r15 r16)=true then
 some (false)
 else
 Zu ((5:Int)≠0)<|
 if (cop .neq r8.2.2.2.1 (iop .rem .i64 x4 5))=true then
 some (false)
 else
 ZN x1 x4 [.bool] fun (r17:Bool)=>
 if (!((cop .gtr r8.2.2.1 0) == r17))=true then
 some (false)
 else
 ZbQ k x0 x1 r8.1 r8.2.1 (iop .add .i64 x4 1) x5 x6 x7
 else
 if (cop .lss x4 x5)=true then
 if (cop .lss x5 (List.length x0:Int))=true then
 if (cop .lss (iop .sub .i64 x5 x4) 8)=true then
 (g11 x6 x7 2).bind fun (r8:Int×LL×Int)=>
 if (cop .eql r8.1 0)=true then
 ZN x1 x5 [.bool] fun (r11:Bool)=>
 if r11=true then
 Zu ((5:Int)≠0)<|
 Zu ((0:Int)≤x5)<|
 Zu ((x5:Int)≤(iop .add .i64 x5 1))<|
 Zu (((iop .add .i64 x5 1):Int)≤(List.length x0:Int))<|
 (g12 x2 x3 128 (iop .rem .i64 x5 5) (List.drop (Int.toNat x5) (List.take (Int.toNat (iop .add .i64 x5 1)) x0)) (-1)).bind fun (r12:Int×LL×Int×Int)=>
 if (cop .neq r12.2.2.2 0)=true then
 some (false)
 else
 ZbQ k x0 x1 r12.1 r12.2.1 x4 (iop .add .i64 x5 1) r8.2.1 r8.2.2
 else
 Zu ((5:Int)≠0)<|
 Zu ((0:Int)≤x5)<|
 Zu ((x5:Int)≤(iop .add .i64 x5 1))<|
 Zu (((iop .add .i64 x5 1):Int)≤(List.length x0:Int))<|
 (g13 x2 x3 128 (iop .rem .i64 x5 5) (List.drop (Int.toNat x5) (List.take (Int.toNat (iop .add .i64 x5 1)) x0)) (-1)).bind fun (r12:Int×LL×Int)=>
 if (cop .neq r12.2.2 0)=true then
 some (false)
 else
 ZbQ k x0 x1 r12.1 r12.2.1 x4 (iop .add .i64 x5 1) r8.2.1 r8.2.2
 else
 if (cop .eql x4 x5)=true then
 ZN x1 x5 [.bool] fun (r11:Bool)=>
 if r11=true then
 Zu ((5:Int)≠0)<|
 Zu ((0:Int)≤x5)<|
 Zu ((x5:Int)≤(iop .add .i64 x5 1))<|
 Zu (((iop .add .i64 x5 1):Int)≤(List.length x0:Int))<|
 (g12 x2 x3 128 (iop .rem .i64 x5 5) (List.drop (Int.toNat x5) (List.take (Int.toNat (iop .add .i64 x5 1)) x0)) (-1)).bind fun (r12:Int×LL×Int×Int)=>
 if (cop .neq r12.2.2.2 0)=true then
 some (false)
 else
 ZbQ k x0 x1 r12.1 r12.2.1 x4 (iop .add .i64 x5 1) r8.2.1 r8.2.2
 else
 Zu ((5:Int)≠0)<|
 Zu ((0:Int)≤x5)<|
 Zu ((x5:Int)≤(iop .add .i64 x5 1))<|
 Zu (((iop .add .i64 x5 1):Int)≤(List.length x0:Int))<|
 (g13 x2 x3 128 (iop .rem .i64 x5 5) (List.drop (Int.toNat x5) (List.take (Int.toNat (iop .add .i64 x5 1)) x0)) (-1)).bind fun (r12:Int×LL×Int)=>
 if (cop .neq r12.2.2 0)=true then
 some (false)
 else
 ZbQ k x0 x1 r12.1 r12.2.1 x4 (iop .add .i64 x5 1) r8.2.1 r8.2.2
 else
 (g14 x2 x3 128 7).bind fun (r11:Int×LL×Int×Int×LL×Int×Int)=>
 if (cop .neq r11.2.2.2.2.2.2 0)=true then
 some (false)
 else
 if (cop .neq (List.length r11.2.2.2.2.1:Int) 1)=true then
 some (false)
 else
 ZN r11.2.2.2.2.1 0 [.int .u64] fun (r18:Int)=>
 ZN x0 x4 [.int .u64] fun (r19:Int)=>
 if (cop .neq r18 r19)=true then
 some (false)
 else
 Zu ((5:Int)≠0)<|
 if (cop .neq r11.2.2.2.1 (iop .rem .i64 x4 5))=true then
 some (false)
 else
 ZN x1 x4 [.bool] fun (r20:Bool)=>
 if (!((cop .gtr r11.2.2.1 0) == r20))=true then
 some (false)
 else
 ZbQ k x0 x1 r11.1 r11.2.1 (iop .add .i64 x4 1) x5 r8.2.1 r8.2.2
 else
 (g14 x2 x3 128 7).bind fun (r8:Int×LL×Int×Int×LL×Int×Int)=>
 if (cop .neq r8.2.2.2.2.2.2 0)=true then
 some (false)
 else
 if (cop .neq (List.length r8.2.2.2.2.1:Int) 1)=true then
 some (false)
 else
 ZN r8.2.2.2.2.1 0 [.int .u64] fun (r15:Int)=>
 ZN x0 x4 [.int .u64] fun (r16:Int)=>
 if (cop .neq r15 r16)=true then
 some (false)
 else
 Zu ((5:Int)≠0)<|
 if (cop .neq r8.2.2.2.1 (iop .rem .i64 x4 5))=true then
 some (false)
 else
 ZN x1 x4 [.bool] fun (r17:Bool)=>
 if (!((cop .gtr r8.2.2.1 0) == r17))=true then
 some (false)
 else
 ZbQ k x0 x1 r8.1 r8.2.1 (iop .add .i64 x4 1) x5 x6 x7
 else
 (g14 x2 x3 128 7).bind fun (r8:Int×LL×Int×Int×LL×Int×Int)=>
 if (cop .neq r8.2.2.2.2.2.2 0)=true then
 some (false)
 else
 if (cop .neq (List.length r8.2.2.2.2.1:Int) 1)=true then
 some (false)
 else
 ZN r8.2.2.2.2.1 0 [.int .u64] fun (r15:Int)=>
 ZN x0 x4 [.int .u64] fun (r16:Int)=>
 if (cop .neq r15 r16)=true then
 some (false)
 else
 Zu ((5:Int)≠0)<|
 if (cop .neq r8.2.2.2.1 (iop .rem .i64 x4 5))=true then
 some (false)
 else
 ZN x1 x4 [.bool] fun (r17:Bool)=>
 if (!((cop .gtr r8.2.2.1 0) == r17))=true then
 some (false)
 else
 ZbQ k x0 x1 r8.1 r8.2.1 (iop .add .i64 x4 1) x5 x6 x7
 else
 (g14 x2 x3 128 7).bind fun (r8:Int×LL×Int×Int×LL×Int×Int)=>
 if (cop .eql r8.2.2.2.2.2.2 2)=true then
 (g8).bind fun (r15:Bool)=>
 some (r15)
 else
 some (false)):=by kernel_rfl
theorem ZnY (x0:LL) (x1:LL) (x2:LL):g3 x0 x1 x2 =
 (if (cop .gtr (List.length x0:Int) 40)=true then
 (g8).bind fun (r3:Bool)=>
 some (r3)
 else
 if (cop .lss (List.length x1:Int) (List.length x0:Int))=true then
 (g8).bind fun (r3:Bool)=>
 some (r3)
 else
 (g10).bind fun (r3:Int×LL)=>
 (g9 r3.1 r3.2 128 7).bind fun (r5:Int×LL×Int)=>
 if (cop .neq r5.2.2 0)=true then
 some (false)
 else
 ZbQ WW x0 x1 r5.1 r5.2.1 0 0 x2 0):=by kernel_rfl
end Go.Proofs.Ytigknndkmlhmfaa
end

section
namespace Go.Proofs.Ytigknndkmlhmfaa
open Go Go.AM
set_option linter.unusedSimpArgs false
set_option linter.unusedVariables false
set_option maxRecDepth 100000
theorem behind : ∃ ws, behindMainWord (wordsSigns Try.prog.initOrder.toList) = "cut".toList :: ws := by
 have h:Try.prog.initOrder.toList=_:=String.toList_ofList (l:=_)
 rw [h]
 exact ZeX (by kernel_rfl) (by kernel_rfl) (by kernel_rfl) (by kernel_rfl) (by kernel_rfl) (by kernel_rfl)
theorem Zmx:Try.prog.mayEnter=true:=behind.elim fun _ h=>Go.AM.enters_of h (by kernel_rfl) (by kernel_rfl) (by kernel_rfl)
theorem ZnN:Try.prog.liftsFinal=false:=behind.elim fun _ h=>Go.AM.final_of h
theorem Zm7:Try.prog.make=some .cut:=behind.elim fun _ h=>Go.AM.make_of h
theorem Zoq:laidOutB Try.prog=true:=by kernel_rfl
theorem ZhY:ownKnob Try.prog.godebug=none:=by kernel_rfl
theorem ZkS {d:Nat} {cs:List AV} (h:TyR Try.prog (d+1) 3 cs):∃ z,cs = [I z]:=by
 simp only [TyR,Try.underlying3] at h
 obtain ⟨z,h,_⟩:=h
 exact ⟨z,h⟩
theorem Zlr {d:Nat} {cs:List AV} (h:TyR Try.prog (d+1) 4 cs):∃ z,cs = [B z]:=by
 simp only [TyR,Try.underlying4] at h
 exact h
def u64 (z:Int):AV:=.val (.int .u64 z)
theorem Znq {d:Nat} {cs:List AV} (h:TyR Try.prog (d+1) 44 cs):∃ z,cs = [u64 z]:=by
 simp only [TyR,Try.underlying44] at h
 obtain ⟨z,h,_⟩:=h
 exact ⟨z,h⟩
theorem arg_int {x:AV} (h:V2 Try.prog 8 3 x):∃ z,x=I z:=by
 simp only [V2,Try.underlying3] at h
 obtain ⟨z,hz⟩:=ZkS h.2
 exact ⟨z,by simpa using hz⟩
def ZnM (z:Int):List AV:=[u64 z]
def ZE (l:List Int):LL:=l.map ZnM
def ZlB (b:Bool):List AV:=[B b]
def Jf (l:List Bool):LL:=l.map ZlB
def Zn3 (z:Int):List AV:=[I z]
def Jr (l:List Int):LL:=l.map Zn3
theorem Wa {α β:Type} {f:α→β} {p:α→Prop} : ∀ (xs:List β),(∀ x∈xs,∃ a,x=f a∧p a)→∃ l:List α,xs=l.map f∧∀ a∈l,p a
 | [], _ => ⟨[], rfl, by simp⟩
 | x :: xs, h => by
  obtain ⟨a,h1,h2⟩:=h x (by simp)
  obtain ⟨l,h3,h4⟩:=Wa xs fun y hy=>h y (by simp [hy])
  refine ⟨a::l,by rw [h1,h3];rfl,fun b hb=>?_⟩
  rcases List.mem_cons.1 hb with rfl | hb
  ·exact h2
  ·exact h4 b hb
theorem Zne:Try.prog.cellsOf 3=1:=by kernel_rfl
theorem Zm4:Try.prog.cellsOf 4=1:=by kernel_rfl
theorem ZlC:Try.prog.cellsOf 44=1:=by kernel_rfl
theorem ZjW {x:AV} (h:V2 Try.prog 8 24 x):∃ l,x = .slice false 1 (Jr l)∧l.length≤maxLen:=by
 simp only [V2,Try.underlying24] at h
 have hh:=h.2
 rw [TyR] at hh
 simp only [Try.underlying24,Zne] at hh
 obtain ⟨xs,h1,h2,h3⟩:=hh
 obtain ⟨l,rfl,h5⟩:=Wa (f:=Zn3) (p:=fun _=>True) xs fun y hy=>by
  obtain ⟨z,hz⟩:=ZkS (h3 y hy)
  exact ⟨z,hz,trivial⟩
 exact ⟨l,by simpa [Jr] using h1,by simpa using h2⟩
theorem ZiH {x:AV} (h:V2 Try.prog 8 22 x):∃ l,x = .slice false 1 (ZE l)∧l.length≤maxLen:=by
 simp only [V2,Try.underlying22] at h
 have hh:=h.2
 rw [TyR] at hh
 simp only [Try.underlying22,ZlC] at hh
 obtain ⟨xs,h1,h2,h3⟩:=hh
 obtain ⟨l,rfl,h5⟩:=Wa (f:=ZnM) (p:=fun _=>True) xs fun y hy=>by
  obtain ⟨z,hz⟩:=Znq (h3 y hy)
  exact ⟨z,hz,trivial⟩
 exact ⟨l,by simpa [ZE] using h1,by simpa using h2⟩
theorem ZiC {x:AV} (h:V2 Try.prog 8 23 x):∃ l,x = .slice false 1 (Jf l)∧l.length≤maxLen:=by
 simp only [V2,Try.underlying23] at h
 have hh:=h.2
 rw [TyR] at hh
 simp only [Try.underlying23,Zm4] at hh
 obtain ⟨xs,h1,h2,h3⟩:=hh
 obtain ⟨l,rfl,h5⟩:=Wa (f:=ZlB) (p:=fun _=>True) xs fun y hy=>by
  obtain ⟨z,hz⟩:=Zlr (h3 y hy)
  exact ⟨z,hz,trivial⟩
 exact ⟨l,by simpa [Jf] using h1,by simpa using h2⟩
def Zl2:List TypeId:=[3,4,22,23,24,44]
theorem ZnV (t:TypeId) (h:Zl2.contains t=true):W9 Try.prog 8 t=true∧t < Try.prog.types.size∧Try.prog.readableRec t=true:=by
 have h2:Zl2.all (fun t=>W9 Try.prog 8 t&&decide (t < Try.prog.types.size)&&Try.prog.readableRec t)=true:=by kernel_rfl
 rw [List.all_eq_true] at h2
 have:=h2 t (by simpa using h)
 simpa [and_assoc] using this
theorem ZmB {n:Nat} (h:n < 2^63):n+1 < WW:=by
 have:(2:Nat)^64≤WW:=by decide
 omega
theorem We {α γ:Type} {f:α→List AV} {sh:List Sh} {v:α→ShsT sh} (hf:∀ x,ZiP sh (f x)=some (v x)) {l:List α} {i:Nat} (h:i < l.length) (k:ShsT sh→Option γ):ZN (l.map f) (i:Int) sh k=k (v l[i]):=by
 refine YE k (by omega) (cs:=f l[i]) ?_ (hf _)
 rw [Int.toNat_natCast,List.getElem?_map,List.getElem?_eq_getElem h]
 rfl
theorem JY {a b:LL} {k:Nat} (h:a.length+b.length≤4096) (hk:k≤10000):YW a b k:=by
 unfold YW Z5
 have:(a.length+b.length)*(k+1)≤4096*10001:=Nat.mul_le_mul h (by omega)
 omega
def Ret {α:Type} (P:α→Prop) (o:Option α):Prop:=∃ r,o=some r∧P r
theorem ZW {α:Type} {P:α→Prop} {a:α} (h:P a):Ret P (some a):=⟨a,rfl,h⟩
theorem Zao {α β:Type} {P:β→Prop} {Q:α→Prop} {o:Option α} {f:α→Option β} (h:Ret Q o) (k:∀ r,Q r→Ret P (f r)):Ret P (o.bind f):=by
 obtain ⟨r,rfl,hr⟩:=h
 exact k r hr
theorem Ze {α:Type} {P:α→Prop} {c:Prop} {_:Decidable c} {a b:Option α} (h1:c→Ret P a) (h2:¬ c→Ret P b):Ret P (if c then a else b):=by
 split
 ·exact h1 ‹_›
 ·exact h2 ‹_›
theorem Zm {α:Type} {P:α→Prop} {p:Prop} {_:Decidable p} {x:Option α} (h:p) (k:Ret P x):Ret P (Zu p x):=by
 rw [Y2 h];exact k
theorem ZH {α:Type} {P:α→Prop} {a b:Option α} (h:a=b) (k:Ret P b):Ret P a:=h ▸ k
theorem Zd {α β:Type} {P:β→Prop} {o:Option α} {a:α} {f:α→Option β} (h:o=some a) (k:Ret P (f a)):Ret P (o.bind f):=by
 subst h;exact k
theorem YL {α:Type} {o:Option α} {a:α} (h:Ret (fun r=>r=a) o):o=some a:=by
 obtain ⟨r,e,rfl⟩:=h
 exact e
theorem ZjM {σ γ:Type} {P:γ→Prop} {F:Nat→σ→Int→Option γ} {n:Nat} (J:Nat→σ→Prop) (hn:n < 2^63)
  (step:∀ (k i:Nat) (s:σ),i < n→J i s→(∀ s',J (i+1) s'→Ret P (F k s' ((i+1:Nat):Int)))→Ret P (F (k+1) s (i:Int)))
  (last:∀ (k:Nat) (s:σ),J n s→Ret P (F (k+1) s (n:Int))) (s:σ) (h:J 0 s):Ret P (F WW s 0):=by
 have key:∀ (j i fuel:Nat) (s:σ),i+j=n→j < fuel→J i s→Ret P (F fuel s (i:Int)):=by
  intro j
  induction j with
  | zero =>
   intro i fuel s h hf hj
   obtain ⟨q,rfl⟩:∃ q,fuel=q+1:=⟨fuel-1,by omega⟩
   have:i=n:=by omega
   subst this
   exact last q s hj
  | succ j ih =>
   intro i fuel s h hf hj
   obtain ⟨q,rfl⟩:∃ q,fuel=q+1:=⟨fuel-1,by omega⟩
   exact step q i s (by omega) hj fun s' hs=>ih (i+1) q s' (by omega) (by omega) hs
 exact key n 0 WW s (by omega) (by have:=ZmB hn;omega) h
theorem Ys {σ γ:Type} {P:γ→Prop} {F:Nat→σ→Int→Option γ} (n:Nat) (J:Nat→σ→Prop) (hn:n < 1000)
  (step:∀ (k i:Nat) (s:σ),i≤n→J i s→(i < n→∀ s',J (i+1) s'→Ret P (F k s' ((i+1:Nat):Int)))→Ret P (F (k+1) s (i:Int))) (s:σ) (h:J 0 s):Ret P (F WW s 0):=by
 refine ZjM (F:=F) (n:=n) J (by omega) (fun k i s hi hj ih=>step k i s (by omega) hj fun _=>ih) (fun k s hj=>step k n s (Nat.le_refl _) hj fun h=>absurd h (Nat.lt_irrefl _)) s h
theorem ZeJ {i n:Nat} (h:i≤n) (hn:n < 1000):iop .add .i64 (i:Int) 1=((i+1:Nat):Int):=by
 rw [Zic (by omega) (by omega)];omega
theorem ZcG {γ:Type} {l:List Bool} {i:Nat} (h:i < l.length) (k:Bool→Option γ):ZN (Jf l) (i:Int) [.bool] k=k l[i]:=We (f:=ZlB) (sh:=[.bool]) (v:=fun x=>x) (fun _=>rfl) h k
theorem ZgO {γ:Type} {l:List Int} {i:Nat} (h:i < l.length) (k:Int→Option γ):ZN (ZE l) (i:Int) [.int .u64] k=k l[i]:=We (f:=ZnM) (sh:=[.int .u64]) (v:=fun x=>x) (fun _=>rfl) h k
theorem ZhG {γ:Type} {l:List Int} {i:Nat} (h:i < l.length) (k:Int→Option γ):ZN (Jr l) (i:Int) [.int .i64] k=k l[i]:=We (f:=Zn3) (sh:=[.int .i64]) (v:=fun x=>x) (fun _=>rfl) h k
theorem Zkp {l:LL} {i o:Nat} {v:List AV} (h:∀ r,l[i]? = some r→setCells r o v=r):ZD l i o v=l:=by
 unfold ZD
 apply List.ext_getElem?
 intro j
 rw [List.getElem?_modify]
 by_cases hij:i=j
 ·subst hij
  cases hx:l[i]? with
  | none => rfl
  | some r => simp [h r hx]
 ·cases hx:l[j]? with
  | none => rfl
  | some r => simp [hij]
end Go.Proofs.Ytigknndkmlhmfaa
end

section
namespace Go.Proofs.Ytigknndkmlhmfaa
open Go Go.AM
set_option linter.unusedSimpArgs false
set_option linter.unusedVariables false
set_option maxRecDepth 100000
structure Ms where
 t:Int
 c:Int
 w:LL
 s:Int
def mc (m:Ms):List AV:=[I m.t,I m.c,.slice false 1 m.w,I m.s]
def mv (m:Ms):Int×Int×LL×Int:=(m.t,m.c,m.w,m.s)
def ZgC (m:Ms):Prop:=0≤m.t∧0≤m.c∧m.c < 32∧m.w.length≤8∧-1≤m.s∧m.s < 64
structure Ep where
 o:Int
 v:Int
 q:List Ms
 s:List Ms
def ec (e:Ep):List AV:=[I e.o,I e.v,.slice false 4 (e.q.map mc),.slice false 4 (e.s.map mc)]
def ev (e:Ep):Int×Int×LL×LL:=(e.o,e.v,e.q.map mc,e.s.map mc)
def en (e:Ep):List AV:=[I e.o,I e.v,.nest 4 true 41 (e.q.map mc),.nest 4 true 41 (e.s.map mc)]
theorem Zge {γ:Type} {l:List Ms} {i:Nat} (h:i < l.length) (k:Int×Int×LL×Int→Option γ):ZN (l.map mc) (i:Int) [.int .i64,.int .i64,.slice 1,.int .i64] k=k (mv l[i]):=We (f:=mc) (sh:=[.int .i64,.int .i64,.slice 1,.int .i64]) (v:=mv) (fun _=>rfl) h k
theorem Vv {γ:Type} {l:List Ep} {i:Nat} (h:i < l.length) (k:Int×Int×LL×LL→Option γ):ZN (l.map ec) (i:Int) [.int .i64,.int .i64,.slice 4,.slice 4] k=k (ev l[i]):=We (f:=ec) (sh:=[.int .i64,.int .i64,.slice 4,.slice 4]) (v:=ev) (fun _=>rfl) h k
theorem s65 (x:LL) (h:x.length < 1000):g65 x=some x:=by
 rw [Zms]
 have hr:YW E0 x 64:=JY (by simp;omega) (by decide)
 cases x with
 | nil => simp [ZgV, Zu, hr]
 | cons a x => simp [ZgV, Zu, hr]
theorem s75 (x:LL) (h:x.length < 1000):g75 x=some x:=by
 rw [ZmL]
 have hr:YW E0 x 48:=JY (by simp;omega) (by decide)
 cases x with
 | nil => simp [ZgV, Zu, hr]
 | cons a x => simp [ZgV, Zu, hr]
theorem s43 (x:LL) (h:x.length < 1000):g43 x=some x:=by
 rw [Znd]
 have hr:YW E0 x 8:=JY (by simp;omega) (by decide)
 cases x with
 | nil => simp [ZgV, Zu, hr]
 | cons a x => simp [ZgV, Zu, hr]
theorem s66 (ms:List Ms) (hl:ms.length < 1000) (hw:∀ m∈ms,m.w.length < 1000):g66 (ms.map mc)=some (ms.map mc):=by
 refine YL ?_
 rw [Zm1]
 refine Zd (s75 _ (by simpa using hl)) ?_
 rw [List.length_map]
 refine Ys (F:=fun k (s:LL) i=>ZjR k s (ms.length:Int) i) ms.length (fun _ s=>s=ms.map mc) hl (fun k i s hi hs next=>?_) (ms.map mc) rfl
 subst hs
 refine ZH (Zj7 ..) (Ze (fun h=>?_) fun _=>ZW rfl)
 simp only [CQ] at h
 have hi':i < ms.length:=by omega
 have r1:(0:Int)≤(i:Int):=Int.natCast_nonneg i
 have r2:(i:Int) < ((ms.map mc).length:Int):=by rw [List.length_map];omega
 refine Zm r1 (Zm r2 (ZH (Zge hi' _) (Zd (s43 ms[i].w (hw _ (List.getElem_mem hi'))) (Zm r1 (Zm r2 (Zm r1 (Zm r2 ?_)))))))
 rw [ZeJ hi hl]
 refine next hi' _ (Zkp fun r hr=>?_)
 rw [Int.toNat_natCast,List.getElem?_map,List.getElem?_eq_getElem hi'] at hr
 simp only [Option.map_some,Option.some.injEq] at hr
 subst hr
 rfl
theorem ZmW (es:List Ep):ZhA (es.map ec)=es.map ec:=by
 unfold ZhA
 rw [List.map_map]
 exact List.map_congr_left fun e _=>rfl
theorem Zmu (es:List Ep):Zai (es.map en)=es.map ec:=by
 unfold Zai
 rw [List.map_map]
 exact List.map_congr_left fun e _=>rfl
def mix (es:List Ep) (i:Nat):LL:=(es.take i).map en++(es.drop i).map ec
theorem Znw {es:List Ep} {i:Nat} (h:i < es.length):(mix es i)[i]? = some (ec es[i]):=by
 unfold mix
 rw [List.getElem?_append_right (by simp;omega)]
 have:i-((es.take i).map en).length=0:=by simp;omega
 rw [this,List.getElem?_map,List.getElem?_drop,Nat.add_zero,List.getElem?_eq_getElem h]
 rfl
theorem ZfD (es:List Ep) (i:Nat):(mix es i).length=es.length:=by
 simp only [mix,List.length_append,List.length_map,List.length_take,List.length_drop];omega
theorem KB {α:Type} {l:List α} {i:Nat} {f:α→α} {a:α} (h:l[i]? = some a):l.modify i f=l.set i (f a):=by
 apply List.ext_getElem?
 intro j
 rw [List.getElem?_modify,List.getElem?_set]
 have hi:=(List.getElem?_eq_some_iff.1 h).1
 by_cases hij:i=j
 ·subst hij
  rw [h]
  simp [hi]
 ·simp [hij]
theorem ZfW {α:Type} {l:List α} {i:Nat} {f:α→α} {a:α} (h:l[i]? = some a) (hf:f a=a):l.modify i f=l:=by
 rw [KB h,hf]
 apply List.ext_getElem?
 intro j
 rw [List.getElem?_set]
 have hi:=(List.getElem?_eq_some_iff.1 h).1
 by_cases hij:i=j
 ·subst hij
  rw [h]
  simp [hi]
 ·simp [hij]
theorem ZkB {es:List Ep} {i:Nat} (h:i < es.length):(mix es i).set i (en es[i])=mix es (i+1):=by
 have h1:((es.take i).map en).length=i:=by simp;omega
 unfold mix
 rw [List.set_append_right _ _ (by omega),h1,Nat.sub_self,List.drop_eq_getElem_cons h,List.map_cons,List.set_cons_zero,List.take_succ_eq_append_getElem h,List.map_append,List.append_assoc]
 rfl
theorem s40 (n:Int) (es:List Ep) (hl:es.length < 1000) (hq:∀ e∈es,e.q.length < 1000∧e.s.length < 1000∧(∀ m∈e.q,m.w.length < 1000)∧∀ m∈e.s,m.w.length < 1000):g40 n (es.map ec)=some (n,es.map en):=by
 refine YL ?_
 rw [Znl]
 refine Zd (s65 _ (by simpa using hl)) ?_
 rw [ZmW,List.length_map]
 have h0:es.map ec=mix es 0:=by simp [mix]
 have hn:es.map en=mix es es.length:=by simp [mix]
 rw [h0,hn]
 refine Ys (F:=fun k (s:LL) i=>Zj3 k n s 0 E0 (es.length:Int) i) es.length (fun i s=>s=mix es i) hl (fun k i s hi hs next=>?_) (mix es 0) rfl
 subst hs
 refine ZH (ZkC ..) (Ze (fun h=>?_) fun h=>?_)
 ·simp only [CQ] at h
  have hi':i < es.length:=by omega
  have r1:(0:Int)≤(i:Int):=Int.natCast_nonneg i
  have hat:=Znw hi'
  have hz:KD (mix es i) i 0 4=mix es i:=ZfW hat rfl
  have hel:∀ (k:Int×Int×LL×LL→Option (Int×LL)),ZN (Zjv (mix es i) 0 4) (i:Int) [.int .i64,.int .i64,.slice 4,.slice 4] k=k (ev es[i]):=fun k=>YE (sh:=[.int .i64,.int .i64,.slice 4,.slice 4]) k r1 (cs:=ec es[i]) (by
   rw [Int.toNat_natCast]
   unfold Zjv
   rw [List.getElem?_map,hat]
   rfl) rfl
  have r2:(i:Int) < ((mix es i).length:Int):=by rw [ZfD];omega
  obtain ⟨q1,q2,q3,q4⟩:=hq _ (List.getElem_mem hi')
  rw [Int.toNat_natCast,hz]
  obtain ⟨R1,hR1⟩:∃ R1:List AV,R1 = [I es[i].o,I es[i].v,.nest 4 true 41 (es[i].q.map mc),.slice false 4 (es[i].s.map mc)]:=⟨_,rfl⟩
  have hp1:Yl (mix es i) i 2 (.nest 4 true 41 (es[i].q.map mc))=(mix es i).set i R1:=by
   rw [hR1];exact KB hat
  have hp2:Yl ((mix es i).set i R1) i 3 (.nest 4 true 41 (es[i].s.map mc))=mix es (i+1):=by
   have hb:((mix es i).set i R1)[i]? = some R1:=by rw [List.getElem?_set];simp [ZfD,hi']
   have:Yl ((mix es i).set i R1) i 3 (.nest 4 true 41 (es[i].s.map mc))=((mix es i).set i R1).set i (en es[i]):=by
    rw [hR1] at hb ⊢
    exact KB hb
   rw [this,List.set_set,ZkB hi']
  have r3:(i:Int) < (((mix es i).set i R1).length:Int):=by rw [List.length_set,ZfD];omega
  refine Zm r1 (Zm r2 (ZH (hel _) (Zd (s66 es[i].q q1 q3) (Zm r1 (Zm r2 (Zm r1 (Zm r2 (Zd (s66 es[i].s q2 q4) ?_))))))))
  rw [hp1]
  refine Zm r1 (Zm r3 (Zm r1 (Zm r3 ?_)))
  rw [hp2,ZeJ hi hl]
  exact next hi' _ rfl
 ·simp only [CQ] at h
  have:i=es.length:=by omega
  subst this
  exact ZW rfl
end Go.Proofs.Ytigknndkmlhmfaa
end

section
namespace Go.Proofs.Ytigknndkmlhmfaa
open Go Go.AM
set_option linter.unusedSimpArgs false
set_option linter.unusedVariables false
set_option maxRecDepth 100000
theorem s37 (o:Int) (h0:0≤o) (h1:o≤1099511627775):g37 o=some true:=by
 refine YL ?_
 rw [Zm3]
 refine Ze (fun _=>ZW ?_) fun h=>?_
 ·simp only [CQ];exact h1
 ·simp only [CQ] at h;omega
theorem s38 (o:Int) (h0:0≤o) (h1:o < 32):g38 o=some true:=by
 refine YL ?_
 rw [Znv]
 refine Ze (fun _=>ZW ?_) fun h=>?_
 ·simp only [CQ];exact h1
 ·simp only [CQ] at h;omega
theorem s69 (m:Ms) (h:ZgC m):g69 m.t m.c m.w m.s=some true:=by
 obtain ⟨h1,h2,h3,h4,h5,h6⟩:=h
 refine YL ?_
 rw [ZmG]
 refine Ze (fun _=>Zd (s38 m.c h2 h3) (Ze (fun _=>Ze (fun _=>Ze (fun _=>ZW ?_) fun h=>?_) fun h=>?_) fun h=>?_)) fun h=>?_
 ·simp only [CQ];exact h6
 ·simp only [CQ] at h;omega
 ·simp only [CQ] at h;omega
 ·exact (h rfl).elim
 ·simp only [CQ] at h;omega
structure ZnS (e:Ep):Prop where
 o0:0≤e.o
 o1:e.o≤1099511627775
 v0:0≤e.v
 v1:e.v < 32
 ql:e.q.length≤8
 sl:e.s.length≤400
 qm:∀ m∈e.q,ZgC m
 sm:∀ m∈e.s,ZgC m∧m.t≠0
theorem s52 (e:Ep) (h:ZnS e):g52 e.o e.v (e.q.map mc) (e.s.map mc)=some true:=by
 refine YL ?_
 have hql:=h.ql
 have hsl:=h.sl
 rw [ZmJ]
 refine Ze (fun hh=>?_) fun _=>?_
 ·simp only [CQ,List.length_map] at hh;omega
 have hlast:Ret (fun r=>r=true) (Zji WW (e.s.map mc) (List.length (e.s.map mc):Int) 0):=by
  rw [List.length_map]
  refine Ys (F:=fun k (_:Unit) i=>Zji k (e.s.map mc) (e.s.length:Int) i) e.s.length (fun _ _=>True) (by omega) (fun k i _ hi _ next=>?_) () trivial
  refine ZH (ZkN ..) (Ze (fun hh=>?_) fun _=>ZW rfl)
  simp only [CQ] at hh
  have hi':i < e.s.length:=by omega
  obtain ⟨m1,m2⟩:=h.sm _ (List.getElem_mem hi')
  refine ZH (Zge hi' _) (Zd (s69 _ m1) (Ze (fun h=>by cases h) fun _=>Ze (fun h=>?_) fun _=>?_))
  ·simp only [CQ,mv] at h;exact (m2 h).elim
  ·rw [ZeJ hi (by omega)]
   exact next hi' () trivial
 rw [List.length_map]
 refine Ys (F:=fun k (_:Unit) i=>Zj4 k e.o e.v (e.q.map mc) (e.s.map mc) (e.q.map mc) (e.q.length:Int) i) e.q.length (fun _ _=>True) (by omega) (fun k i _ hi _ next=>?_) () trivial
 refine ZH (ZkO ..) (Ze (fun hh=>?_) fun _=>hlast)
 simp only [CQ] at hh
 have hi':i < e.q.length:=by omega
 refine ZH (Zge hi' _) (Zd (s69 _ (h.qm _ (List.getElem_mem hi'))) (Ze (fun h=>by cases h) fun _=>?_))
 rw [ZeJ hi (by omega)]
 exact next hi' () trivial
theorem Znp:∃ q,WW=q+4:=by
 have:(2:Nat)^64≤WW:=by decide
 exact ⟨WW-4,by omega⟩
theorem s70 (n:Nat) (h:n≤1000):g70 E0 (n:Int)=some []:=by
 rw [ZmD]
 unfold Zl8
 rw [Y2 rfl,Y2 (Int.natCast_nonneg n),Y2 (by rw [Int.toNat_natCast];unfold Z5;omega)]
theorem s44 (a b:List Ms) (ha:a.length≤400) (hb:b.length≤400):g44 ((E0++[[AV.slice false 4 (a.map mc)]])++[[AV.slice false 4 (b.map mc)]])=some ((a++b).map mc):=by
 refine YL ?_
 obtain ⟨L,hL⟩:∃ L:LL,L=((E0++[[AV.slice false 4 (a.map mc)]])++[[AV.slice false 4 (b.map mc)]]):=⟨_,rfl⟩
 rw [← hL]
 have hlen:L.length=2:=by rw [hL];rfl
 have e0:∀ {γ:Type} (k:LL→Option γ),ZN L 0 [.slice 4] k=k (a.map mc):=fun k=>YE (sh:=[.slice 4]) k (by decide) (cs:=[AV.slice false 4 (a.map mc)]) (by rw [hL];rfl) rfl
 have e1:∀ {γ:Type} (k:LL→Option γ),ZN L (0+1:Nat) [.slice 4] k=k (b.map mc):=fun k=>YE (sh:=[.slice 4]) k (by decide) (cs:=[AV.slice false 4 (b.map mc)]) (by rw [hL];rfl) rfl
 obtain ⟨f,hf⟩:=Znp
 have i1:iop .add .i64 0 1=((0+1:Nat):Int):=by decide
 have i2:iop .add .i64 ((0+1:Nat):Int) 1=2:=by decide
 have hmap:a.map mc++b.map mc=(a++b).map mc:=by rw [List.map_append]
 have hno:∀ (x y:Nat),x≤1000→y≤1000→iop .add .i64 (x:Int) (y:Int)=((x+y:Nat):Int):=fun x y hx hy=>by
  rw [Zic (by omega) (by omega)];omega
 rw [Zni,hlen,hf]
 refine ZH (ZdC ..) (Ze (fun _=>?_) fun h=>(h (by decide)).elim)
 refine ZH (e0 _) ?_
 rw [List.length_map,show ((0:Int))=((0:Nat):Int) from rfl,hno 0 a.length (by omega) (by omega)]
 refine Ze (fun h=>?_) fun _=>?_
 ·simp only [CQ] at h;omega
 rw [show iop .add .i64 ((0:Nat):Int) 1=((0+1:Nat):Int) from i1]
 refine ZH (ZdC ..) (Ze (fun _=>?_) fun h=>(h (by decide)).elim)
 refine ZH (e1 _) ?_
 rw [List.length_map,hno (0+a.length) b.length (by omega) (by omega)]
 refine Ze (fun h=>?_) fun _=>?_
 ·simp only [CQ] at h;omega
 rw [i2]
 refine ZH (ZdC ..) (Ze (fun h=>by cases h) fun _=>?_)
 refine Zd (s70 _ (by omega)) ?_
 rw [hlen,hf]
 refine ZH (Zdw ..) (Ze (fun _=>?_) fun h=>(h (by decide)).elim)
 refine ZH (e0 _) (Zm (JY (by simp;omega) (by decide)) ?_)
 rw [i1]
 refine ZH (Zdw ..) (Ze (fun _=>?_) fun h=>(h (by decide)).elim)
 refine ZH (e1 _) (Zm (JY (by simp;omega) (by decide)) ?_)
 rw [i2]
 refine ZH (Zdw ..) (Ze (fun h=>by cases h) fun _=>ZW ?_)
 rw [List.nil_append,hmap]
def kv (k:Int):List AV:=[I k,B true]
def Zah (K:List Int):LL:=[[.slice false 2 (K.map kv)]]
theorem ZlG {K:List Int} {t:Int} (h:t∉K):ZbN (Zah K) t [AV.val (.bool false)] = [[AV.val (.bool false),AV.val (.bool false)]]:=by
 have hf:(JC (Zah K)).find? (fun r=>ZU r == some t)=none:=by
  rw [List.find?_eq_none]
  intro r hr
  obtain ⟨k,hk,rfl⟩:=List.mem_map.1 (show r∈K.map kv from hr)
  show ¬ ((some k == some t)=true)
  intro e
  have:k=t:=by simpa using e
  exact h (this ▸ hk)
 unfold ZbN
 rw [hf]
 rfl
theorem Zll {K:List Int} {t:Int} (h:t∉K):ZhT (Zah K) t [AV.val (.bool true)]=Zah (K++[t]):=by
 have ha:((K.map kv).any fun r=>ZU r == some t)=false:=by
  rw [List.any_eq_false]
  intro r hr
  obtain ⟨k,hk,rfl⟩:=List.mem_map.1 hr
  show ¬ ((some k == some t)=true)
  intro e
  have:k=t:=by simpa using e
  exact h (this ▸ hk)
 have hr:JC (Zah K)=K.map kv:=rfl
 unfold ZhT Kd
 rw [hr,ha,if_neg Bool.false_ne_true]
 unfold Zah
 rw [List.map_append]
 rfl
def tk (l:List Ms):List Int:=(l.map Ms.t).filter fun t=>decide (t≠0)
def tkE (es:List Ep):List Int:=es.flatMap fun e=>tk (e.q++e.s)
theorem ZfS {l:List Ms} {j:Nat} (h:j < l.length):tk (l.take (j+1))=if l[j].t=0 then tk (l.take j) else tk (l.take j)++[l[j].t]:=by
 unfold tk
 rw [List.take_succ_eq_append_getElem h,List.map_append,List.filter_append]
 by_cases h0:l[j].t=0
 ·rw [if_pos h0];simp [h0]
 ·rw [if_neg h0];simp [h0]
theorem Zm2 {l:List Ms} (j:Nat):∃ r,tk l=tk (l.take j)++r:=by
 refine ⟨tk (l.drop j),?_⟩
 unfold tk
 rw [← List.filter_append,← List.map_append,List.take_append_drop]
structure Vld (n:Int) (es:List Ep):Prop where
 n0:0≤n
 n1:n≤1099511627776
 len:es.length≤32
 ok:∀ e∈es,ZnS e
 ord:es.Pairwise fun a b=>a.o < b.o
 nd:(tkE es).Nodup
 le:∀ t∈tkE es,t≤n
theorem inner {P:Bool→Prop} (rec0:List V→Option Bool) (n:Int) (es:LL) (K:List Int) (l:List Ms) (x4 x5:Int) (hl:l.length≤800) (hnd:(K++tk l).Nodup) (hle:∀ t∈tk l,t≤n)
  (h:Ret P (rec0 [.i n,.l es,.l (Zah (K++tk l)),.l es,.i x4,.i (iop .add .i64 x5 1)])) :
  Ret P (Zd4 rec0 WW n es (Zah K) es x4 x5 (l.map mc) (List.length (l.map mc):Int) 0):=by
 rw [List.length_map]
 refine Ys (F:=fun k (s:LL) i=>Zd4 rec0 k n es s es x4 x5 (l.map mc) (l.length:Int) i) l.length (fun i s=>s=Zah (K++tk (l.take i))) (by omega) (fun k i s hi hs next=>?_) (Zah K) (by simp [tk])
 subst hs
 refine ZH (Zkx ..) (Ze (fun hh=>?_) fun hh=>?_)
 ·simp only [CQ] at hh
  have hi':i < l.length:=by omega
  have r1:(0:Int)≤(i:Int):=Int.natCast_nonneg i
  have r2:(i:Int) < ((l.map mc).length:Int):=by rw [List.length_map];omega
  refine Zm r1 (Zm r2 (ZH (Zge hi' _) (Ze (fun h0=>?_) fun h0=>?_)))
  ·simp only [CQ,mv] at h0
   rw [ZeJ hi (by omega)]
   exact next hi' _ (by rw [ZfS hi',if_pos h0])
  ·simp only [CQ,mv] at h0
   have hnot:l[i].t∉K++tk (l.take i):=by
    intro hmem
    obtain ⟨r,hr⟩:=Zm2 (l:=l) (i+1)
    rw [hr,ZfS hi',if_neg h0] at hnd
    rw [← List.append_assoc,← List.append_assoc,List.nodup_append] at hnd
    have:=(List.nodup_append.1 hnd.1).2.2 _ hmem _ (List.mem_singleton.2 rfl)
    exact this rfl
   have hmem:l[i].t∈tk l:=by
    unfold tk
    rw [List.mem_filter]
    exact ⟨List.mem_map.2 ⟨l[i],List.getElem_mem hi',rfl⟩,by simp [h0]⟩
   refine Zm rfl ?_
   rw [show (mv l[i]).1=l[i].t from rfl,ZlG hnot]
   refine ZH (YE (sh:=[.bool,.bool]) (r:=(false,false)) _ (by decide) rfl rfl) (Ze (fun h=>by cases h) fun _=>Ze (fun h1=>?_) fun _=>Zm rfl ?_)
   ·simp only [CQ] at h1
    have:=hle _ hmem
    omega
   ·rw [Zll hnot,ZeJ hi (by omega)]
    exact next hi' _ (by rw [ZfS hi',if_neg h0,List.append_assoc])
 ·simp only [CQ] at hh
  have:i=l.length:=by omega
  subst this
  rw [List.take_length]
  exact h
theorem Zf2 {es:List Ep} {j:Nat} (h:j < es.length):tkE (es.take (j+1))=tkE (es.take j)++tk (es[j].q++es[j].s):=by
 unfold tkE
 rw [List.take_succ_eq_append_getElem h,List.flatMap_append]
 simp
theorem Zls {es:List Ep} (j:Nat):∃ r,tkE es=tkE (es.take j)++r:=by
 refine ⟨tkE (es.drop j),?_⟩
 unfold tkE
 rw [← List.flatMap_append,List.take_append_drop]
theorem s22 (n:Int) (es:List Ep) (h:Vld n es):g22 n (es.map ec)=some true:=by
 refine YL ?_
 have hlen:=h.len
 have hn0:=h.n0
 have hn1:=h.n1
 rw [Znn]
 refine Ze (fun hh=>?_) fun _=>Ze (fun hh=>?_) fun _=>Ze (fun hh=>?_) fun _=>?_
 ·simp only [CQ] at hh;omega
 ·simp only [CQ] at hh;omega
 ·simp only [CQ,List.length_map] at hh;omega
 rw [List.length_map]
 refine Ys (F:=fun k (s:LL) i=>Zme k n (es.map ec) s (es.map ec) (es.length:Int) i) es.length (fun i s=>s=Zah (tkE (es.take i))) (by omega) (fun k i s hi hs next=>?_) _ rfl
 subst hs
 refine ZH (Zjy ..) (Ze (fun hh=>?_) fun _=>ZW rfl)
 simp only [CQ] at hh
 have hi':i < es.length:=by omega
 have he:=h.ok _ (List.getElem_mem hi')
 have hin:Ret (fun r=>r=true) ((g44 ((E0++[[AV.slice false 4 (ev es[i]).2.2.1]])++[[AV.slice false 4 (ev es[i]).2.2.2]])).bind fun (r17:LL)=>
   Zd4 (F22.lp [1,1,1,0] 0 r0 k) WW n (es.map ec) (Zah (tkE (es.take i))) (es.map ec) (es.length:Int) (i:Int) r17 (List.length r17:Int) 0):=by
  refine Zd (s44 es[i].q es[i].s (by have:=he.ql;omega) he.sl) ?_
  obtain ⟨r,hr⟩:=Zls (es:=es) (i+1)
  rw [Zf2 hi'] at hr
  have hnd:=h.nd
  have hle:=h.le
  rw [hr] at hnd hle
  refine inner (F22.lp [1,1,1,0] 0 r0 k) n (es.map ec) _ (es[i].q++es[i].s) _ _ (by have:=he.ql;have:=he.sl;simp;omega) (List.nodup_append.1 hnd).1 (fun t ht=>hle t (by simp [ht])) ?_
  rw [ZeJ hi (by omega),← Zf2 hi']
  exact next hi' _ rfl
 refine ZH (Vv hi' _) (Zd (s37 _ he.o0 he.o1) (Ze (fun h=>by cases h) fun _=>Zd (s38 _ he.v0 he.v1) (Ze (fun h=>by cases h) fun _=>Zd (s52 _ he) (Ze (fun h=>by cases h) fun _=>Ze (fun hp=>?_) fun _=>?_))))
 ·simp only [CQ] at hp
  obtain ⟨j,rfl⟩:∃ j,i=j+1:=⟨i-1,by omega⟩
  have hs:iop .sub .i64 ((j+1:Nat):Int) 1=(j:Int):=by rw [Znr (by omega) (by omega)];omega
  rw [hs]
  have hj:j < es.length:=by omega
  refine ZH (Vv hj _) (Ze (fun hg=>?_) fun _=>hin)
  simp only [CQ,ev] at hg
  have:=List.pairwise_iff_getElem.1 h.ord j (j+1) hj hi' (by omega)
  omega
 ·exact hin
end Go.Proofs.Ytigknndkmlhmfaa
end

section
namespace Go.Proofs.Ytigknndkmlhmfaa
open Go Go.AM
set_option linter.unusedSimpArgs false
set_option linter.unusedVariables false
set_option maxRecDepth 100000
def iv (p:Ep×Nat):List AV:=[I p.1.o,I (p.2:Int)]
def Zjq (es:List Ep):LL:=[[.slice false 2 (es.zipIdx.map iv)]]
theorem ZlS {es:List Ep} {e:Ep} (h:∀ x∈es,x.o≠e.o):ZhT (Zjq es) e.o [AV.val (.int .i64 (es.length:Int))]=Zjq (es++[e]):=by
 have ha:((es.zipIdx.map iv).any fun r=>ZU r == some e.o)=false:=by
  rw [List.any_eq_false]
  intro r hr
  obtain ⟨p,hp,rfl⟩:=List.mem_map.1 hr
  show ¬ ((some p.1.o == some e.o)=true)
  intro q
  have q':p.1.o=e.o:=by simpa using q
  exact h _ (List.fst_mem_of_mem_zipIdx hp) q'
 have hr:JC (Zjq es)=es.zipIdx.map iv:=rfl
 unfold ZhT Kd
 rw [hr,ha,if_neg Bool.false_ne_true]
 unfold Zjq
 rw [List.zipIdx_append,List.map_append,Nat.zero_add]
 rfl
theorem s39 (n:Int) (es:List Ep) (hl:es.length < 900) (ho:es.Pairwise fun a b=>a.o < b.o):g39 n (es.map ec)=some (Zjq es):=by
 refine YL ?_
 rw [Zng,List.length_map]
 refine Ys (F:=fun k (s:LL) i=>Zjz k s (es.map ec) (es.length:Int) i) es.length (fun i s=>s=Zjq (es.take i)) (by omega) (fun k i s hi hs next=>?_) _ rfl
 subst hs
 refine ZH (ZjY ..) (Ze (fun hh=>?_) fun hh=>?_)
 ·simp only [CQ] at hh
  have hi':i < es.length:=by omega
  refine ZH (Vv hi' _) (Zm rfl ?_)
  have hp:=ZlS (es:=es.take i) (e:=es[i]) (fun x hx=>by
   obtain ⟨j,hj,rfl⟩:=List.getElem_of_mem hx
   rw [List.length_take] at hj
   rw [List.getElem_take]
   have:=List.pairwise_iff_getElem.1 ho j i (by omega) hi' (by omega)
   omega)
  rw [List.length_take,Nat.min_eq_left hi] at hp
  rw [show (ev es[i]).1=es[i].o from rfl,hp,ZeJ hi (by omega),← List.take_succ_eq_append_getElem hi']
  exact next hi' _ rfl
 ·simp only [CQ] at hh
  have:i=es.length:=by omega
  subst this
  rw [List.take_length]
  exact ZW rfl
theorem Zj5 {es:List Ep} {o:Int} (h:∀ e∈es,e.o≠o):ZbN (Zjq es) o [AV.val (.int .i64 0)] = [[AV.val (.int .i64 0),AV.val (.bool false)]]:=by
 have hf:(JC (Zjq es)).find? (fun r=>ZU r == some o)=none:=by
  rw [List.find?_eq_none]
  intro r hr
  obtain ⟨p,hp,rfl⟩:=List.mem_map.1 (show r∈es.zipIdx.map iv from hr)
  show ¬ ((some p.1.o == some o)=true)
  intro e
  have e':p.1.o=o:=by simpa using e
  exact h _ (List.fst_mem_of_mem_zipIdx hp) e'
 unfold ZbN
 rw [hf]
 rfl
theorem Zf6 {es:List Ep} {k:Nat} (hk:k < es.length) (ho:es.Pairwise fun a b=>a.o < b.o):ZbN (Zjq es) es[k].o [AV.val (.int .i64 0)] = [[AV.val (.int .i64 (k:Int)),AV.val (.bool true)]]:=by
 have hf:(JC (Zjq es)).find? (fun r=>ZU r == some es[k].o)=some (iv (es[k],k)):=by
  show (es.zipIdx.map iv).find? _=_
  rw [List.find?_eq_some_iff_getElem]
  refine ⟨?_,k,by simpa using hk,by simp,fun j hj=>?_⟩
  ·show (some es[k].o == some es[k].o)=true
   simp
  ·have hj':j < es.length:=by omega
   have:((es.zipIdx.map iv)[j]'(by simpa using hj'))=iv (es[j],j):=by simp
   rw [this]
   have:=List.pairwise_iff_getElem.1 ho j k hj' hk hj
   show (!(some es[j].o == some es[k].o))=true
   simp
   omega
 unfold ZbN
 rw [hf]
 rfl
theorem ZaX {γ:Type} {L:LL} {z:Int} {b:Bool} (h:L = [[AV.val (.int .i64 z),AV.val (.bool b)]]) (k:Int×Bool→Option γ):ZN L 0 [.int .i64,.bool] k=k (z,b):=by
 subst h
 exact YE (sh:=[.int .i64,.bool]) k (by decide) (cs:=[AV.val (.int .i64 z),AV.val (.bool b)]) rfl rfl
theorem Vld.few {n:Int} {es:List Ep} (h:Vld n es):∀ e∈es,e.q.length < 1000∧e.s.length < 1000∧(∀ m∈e.q,m.w.length < 1000)∧∀ m∈e.s,m.w.length < 1000:=fun e he=>by
 have:=h.ok e he
 refine ⟨by have:=this.ql;omega,by have:=this.sl;omega,fun m hm=>?_,fun m hm=>?_⟩
 ·have:=(this.qm m hm).2.2.2.1;omega
 ·have:=(this.sm m hm).1.2.2.2.1;omega
theorem Zfe (es:List Ep) (k:Nat) (e:Ep) {R:List AV} (h:R.map ZaW=ec e):Zai ((es.map en).set k R)=(es.set k e).map ec:=by
 unfold Zai
 rw [List.map_set,h,List.map_set]
 congr 1
 exact Zmu es
theorem ZmS {es:List Ep} {k:Nat} (hk:k < es.length):(es.map en)[k]? = some (en es[k]):=by
 rw [List.getElem?_map,List.getElem?_eq_getElem hk];rfl
theorem W1 {L:LL} {k:Nat} {R:List AV} (hk:k < L.length):(L.set k R)[k]? = some R:=by
 rw [List.getElem?_set];simp [hk]
theorem ZiR {L:LL} {k o s:Nat} {e:TypeId} {r:List AV} {ys:LL} (h:L[k]? = some r) (h2:r[o]? = some (.nest s true e ys)):qop (.nst o s e) L (k:Int)=true:=by
 simp [qop,h,h2]
theorem Zgu {P:Int×LL×Int→Prop} (N:Int) (es:List Ep) (k:Nat) (hk:k < es.length) (m:Ms) (hq:es[k].q.length≤100) (h:P (N,(es.set k { es[k] with q:=es[k].q++[m] }).map ec,0)) :
  Ret P (Zu ((0:Int)≤(k:Int))<|Zu ((k:Int) < (List.length (es.map en):Int))<|Zu ((0:Int)≤(k:Int))<|Zu (qop (.nst 2 4 41) (es.map en) (k:Int)=true)<|
   Zu (YW (Wt (es.map en) (Int.toNat (k:Int)) 2) (E0++[mc m]) 48)<|Zu ((0:Int)≤(k:Int))<|
   Zu ((k:Int) < (List.length (Yl (es.map en) (Int.toNat (k:Int)) 2 (AV.nest 4 false 41 E0)):Int))<|Zu ((0:Int)≤(k:Int))<|
   Zu ((k:Int) < (List.length (Yl (es.map en) (Int.toNat (k:Int)) 2 (AV.nest 4 false 41 E0)):Int))<|
   some (N,Zai (Yl (Yl (es.map en) (Int.toNat (k:Int)) 2 (AV.nest 4 false 41 E0)) (Int.toNat (k:Int)) 2 (AV.nest 4 true 41 ((Wt (es.map en) (Int.toNat (k:Int)) 2)++(E0++[mc m])))),0)):=by
 have hat:=ZmS hk
 have hlen:k < (es.map en).length:=by simpa using hk
 have hg:Wt (es.map en) k 2=es[k].q.map mc:=by
  unfold Wt
  rw [hat]
  rfl
 have hp1:Yl (es.map en) k 2 (AV.nest 4 false 41 E0)=(es.map en).set k [I es[k].o,I es[k].v,.nest 4 false 41 [],.nest 4 true 41 (es[k].s.map mc)]:=KB hat
 have hp2:Yl ((es.map en).set k [I es[k].o,I es[k].v,.nest 4 false 41 [],.nest 4 true 41 (es[k].s.map mc)]) k 2 (AV.nest 4 true 41 ((es[k].q++[m]).map mc)) =
   (es.map en).set k (en { es[k] with q:=es[k].q++[m] }):=by
  have:Yl ((es.map en).set k [I es[k].o,I es[k].v,.nest 4 false 41 [],.nest 4 true 41 (es[k].s.map mc)]) k 2 (AV.nest 4 true 41 ((es[k].q++[m]).map mc))=((es.map en).set k _).set k (en { es[k] with q:=es[k].q++[m] }):=KB (W1 hlen)
  rw [this,List.set_set]
 have r1:(0:Int)≤(k:Int):=Int.natCast_nonneg k
 have r2:(k:Int) < (List.length (es.map en):Int):=by omega
 have hm:es[k].q.map mc++(E0++[mc m])=(es[k].q++[m]).map mc:=by simp
 rw [Int.toNat_natCast,hg,hm,hp1,hp2,List.length_set]
 refine Zm r1 (Zm r2 (Zm r1 (Zm ?_ (Zm (JY (by simp;omega) (by decide)) (Zm r1 (Zm r2 (Zm r1 (Zm r2 ?_))))))))
 ·exact ZiR hat rfl
 ·rw [Zfe es k { es[k] with q:=es[k].q++[m] } rfl]
  exact ZW h
theorem s13 (n:Int) (es:List Ep) (h:Vld n es) (k:Nat) (hk:k < es.length) (c:Int) (w:LL) (s:Int) (hm:ZgC ⟨0,c,w,s⟩) (hq:es[k].q.length < 8) :
  g13 n (es.map ec) es[k].o c w s=some (n,(es.set k { es[k] with q:=es[k].q++[⟨0,c,w,s⟩] }).map ec,0):=by
 refine YL ?_
 rw [Zns]
 refine Zao (Q:=fun r=>r=(n,(es.set k { es[k] with q:=es[k].q++[⟨0,c,w,s⟩] }).map ec,0)) ?_ fun r hr=>ZW (by rw [hr])
 rw [Zk5]
 have hlen:=h.len
 refine Zd (s22 n es h) (Ze (fun h=>by cases h) fun _=>Zd (s69 ⟨0,c,w,s⟩ hm) (Ze (fun h=>by cases h) fun _=>Zd (s39 n es (by omega) h.ord) (Zm rfl ?_)))
 refine ZH (ZaX (Zf6 hk h.ord) _) (Ze (fun h=>by cases h) fun _=>ZH (Vv hk _) (Ze (fun h8=>?_) fun _=>Ze (fun h=>by cases h) fun _=>Ze (fun h=>by cases h) fun _=>?_))
 ·simp only [CQ,ev,List.length_map] at h8;omega
 refine Zd (s40 n es (by omega) h.few) (Ze (fun h=>by cases h) fun _=>Zd (s43 w (by have:=hm.2.2.2.1;simp only at this;omega)) ?_)
 exact Zgu n es k hk ⟨0,c,w,s⟩ (by omega) rfl
theorem s12 (n:Int) (es:List Ep) (h:Vld n es) (k:Nat) (hk:k < es.length) (c:Int) (w:LL) (s:Int) (hm:ZgC ⟨0,c,w,s⟩) (hq:es[k].q.length < 8) (hv:es[k].v≠c) (hn:n < 1099511627776) :
  g12 n (es.map ec) es[k].o c w s=some (n+1,(es.set k { es[k] with q:=es[k].q++[⟨n+1,c,w,s⟩] }).map ec,n+1,0):=by
 refine YL ?_
 have hn0:=h.n0
 have hadd:iop .add .i64 n 1=n+1:=Zic (by omega) (by omega)
 rw [Znt]
 refine Zao (Q:=fun r=>r=(n+1,(es.set k { es[k] with q:=es[k].q++[⟨n+1,c,w,s⟩] }).map ec,0)) ?_ fun r hr=>ZW (by rw [hr])
 rw [Zk5]
 have hlen:=h.len
 refine Zd (s22 n es h) (Ze (fun h=>by cases h) fun _=>Zd (s69 ⟨0,c,w,s⟩ hm) (Ze (fun h=>by cases h) fun _=>Zd (s39 n es (by omega) h.ord) (Zm rfl ?_)))
 refine ZH (ZaX (Zf6 hk h.ord) _) (Ze (fun h=>by cases h) fun _=>ZH (Vv hk _) (Ze (fun h8=>?_) fun _=>Ze (fun _=>?_) fun h=>(h rfl).elim))
 ·simp only [CQ,ev,List.length_map] at h8;omega
 refine ZH (Vv hk _) (Ze (fun hb=>?_) fun _=>Ze (fun _=>Ze (fun hb=>?_) fun _=>?_) fun h=>(h rfl).elim)
 ·simp only [CQ,ev] at hb;exact (hv hb).elim
 ·simp only [CQ] at hb;omega
 refine Zd (s40 n es (by omega) h.few) (Ze (fun _=>Zd (s43 w (by have:=hm.2.2.2.1;simp only at this;omega)) ?_) fun h=>(h rfl).elim)
 rw [show iop .add .i64 (n,es.map en).1 1=n+1 from hadd]
 exact Zgu (n+1) es k hk ⟨n+1,c,w,s⟩ (by omega) rfl
def Zb6 (e:Ep) (m:Ms) (q:List Ms):Ep:=if 0 < m.t then { e with q:=q,s:=e.s++[m] } else { e with q:=q }
theorem s14 (n:Int) (es:List Ep) (h:Vld n es) (k:Nat) (hk:k < es.length) (m:Ms) (q:List Ms) (hq:es[k].q=m::q) :
  g14 n (es.map ec) es[k].o es[k].v=some (n,(es.set k (Zb6 es[k] m q)).map ec,m.t,m.c,m.w,m.s,0):=by
 refine YL ?_
 have hlen:=h.len
 have hat:=ZmS hk
 have hlk:k < (es.map en).length:=by simpa using hk
 have hok:=h.ok _ (List.getElem_mem hk)
 have hmok:ZgC m:=hok.qm m (by rw [hq];simp)
 have r1:(0:Int)≤(k:Int):=Int.natCast_nonneg k
 have r2:(k:Int) < (List.length (es.map en):Int):=by omega
 rw [ZkQ]
 refine Zd (s22 n es h) (Ze (fun h=>by cases h) fun _=>Zd (s39 n es (by omega) h.ord) (Zm rfl ?_))
 refine ZH (ZaX (Zf6 hk h.ord) _) (Ze (fun h=>by cases h) fun _=>ZH (Vv hk _) (Ze (fun h8=>?_) fun _=>ZH (Vv hk _) (Ze (fun h8=>?_) fun _=>?_)))
 ·simp only [CQ,ev] at h8;exact (h8 rfl).elim
 ·simp only [CQ,ev,List.length_map,hq,List.length_cons] at h8;omega
 refine Zd (s40 n es (by omega) h.few) ?_
 obtain ⟨R1,hR1⟩:∃ R:List AV,R = [I es[k].o,I es[k].v,.slice false 4 (es[k].q.map mc),.nest 4 true 41 (es[k].s.map mc)]:=⟨_,rfl⟩
 obtain ⟨R2,hR2⟩:∃ R:List AV,R = [I es[k].o,I es[k].v,.slice false 4 (q.map mc),.nest 4 true 41 (es[k].s.map mc)]:=⟨_,rfl⟩
 obtain ⟨R3,hR3⟩:∃ R:List AV,R = [I es[k].o,I es[k].v,.slice false 4 (q.map mc),.nest 4 false 41 []]:=⟨_,rfl⟩
 have hf1:KD (es.map en) k 2 1=(es.map en).set k R1:=by rw [hR1];exact KB hat
 have hf2:KD ((es.map en).set k R1) k 2 1=(es.map en).set k R1:=ZfW (W1 hlk) (by rw [hR1];rfl)
 have hel:∀ {γ:Type} (f:LL→Option γ),ZN (Zjv ((es.map en).set k R1) 2 1) (k:Int) [.slice 4] f=f (es[k].q.map mc):=fun f=>YE (sh:=[.slice 4]) f r1 (cs:=[.slice false 4 (es[k].q.map mc)]) (by
  rw [Int.toNat_natCast]
  unfold Zjv
  rw [List.getElem?_map,W1 hlk,hR1]
  rfl) rfl
 have hse:ZD ((es.map en).set k R1) k 2 [AV.slice false 4 (q.map mc)]=(es.map en).set k R2:=by
  have hb:((es.map en).set k R1)[k]? = some R1:=W1 hlk
  have:ZD ((es.map en).set k R1) k 2 [AV.slice false 4 (q.map mc)]=((es.map en).set k R1).set k (setCells R1 2 [AV.slice false 4 (q.map mc)]):=KB hb
  rw [this,List.set_set,hR1,hR2]
  rfl
 have hdrop:List.drop (Int.toNat 1) (es[k].q.map mc)=q.map mc:=by rw [hq];rfl
 have hqm:es[k].q.map mc=mc m::q.map mc:=by rw [hq];rfl
 have hqop:qop (.nst 3 4 41) ((es.map en).set k R2) (k:Int)=true:=ZiR (W1 hlk) (by rw [hR2];rfl)
 have hg3:Wt ((es.map en).set k R2) k 3=es[k].s.map mc:=by
  unfold Wt
  rw [W1 hlk,hR2]
  rfl
 have hp3:Yl ((es.map en).set k R2) k 3 (AV.nest 4 false 41 E0)=(es.map en).set k R3:=by
  have:Yl ((es.map en).set k R2) k 3 (AV.nest 4 false 41 E0)=((es.map en).set k R2).set k (setCells R2 3 [AV.nest 4 false 41 E0]):=KB (W1 hlk)
  rw [this,List.set_set,hR2,hR3]
  rfl
 have hp4:Yl ((es.map en).set k R3) k 3 (AV.nest 4 true 41 ((es[k].s++[m]).map mc))=(es.map en).set k [I es[k].o,I es[k].v,.slice false 4 (q.map mc),.nest 4 true 41 ((es[k].s++[m]).map mc)]:=by
  have:Yl ((es.map en).set k R3) k 3 (AV.nest 4 true 41 ((es[k].s++[m]).map mc))=((es.map en).set k R3).set k (setCells R3 3 [AV.nest 4 true 41 ((es[k].s++[m]).map mc)]):=KB (W1 hlk)
  rw [this,List.set_set,hR3]
  rfl
 have hsm:es[k].s.map mc++(E0++[mc m])=(es[k].s++[m]).map mc:=by simp
 have r3:∀ R,(k:Int) < (((es.map en).set k R).length:Int):=fun R=>by rw [List.length_set];omega
 rw [Int.toNat_natCast,hf1,hf2]
 refine Zm r1 (Zm r2 (ZH (hel _) (ZH (YE (sh:=[.int .i64,.int .i64,.slice 1,.int .i64]) (r:=mv m) (cs:=mc m) _ (by decide) (by rw [hqm];rfl) rfl) (ZH (hel _) (Zm (by decide) (Zm (by rw [hqm,List.length_cons];omega) (Zm r1 (Zm (r3 _) ?_))))))))
 rw [hdrop,hse]
 refine Ze (fun ht=>?_) fun ht=>?_
 ·simp only [CQ,mv] at ht
  refine Zm r1 (Zm hqop (Zm (JY ?_ (by decide)) (Zm r1 (Zm ?_ (Zd (s43 m.w (by have:=hmok.2.2.2.1;omega)) (ZW ?_))))))
  ·rw [hg3];have:=hok.sl;simp;omega
  ·rw [hp3];exact r3 _
  ·rw [hg3,hp3,show ([AV.val (.int .i64 (mv m).1),AV.val (.int .i64 (mv m).2.1),AV.slice false 1 (mv m).2.2.1,AV.val (.int .i64 (mv m).2.2.2)] : List AV)=mc m from rfl,hsm,hp4,Zfe es k (Zb6 es[k] m q) (by unfold Zb6;rw [if_pos ht];rfl)]
   rfl
 ·simp only [CQ,mv] at ht
  refine ZW ?_
  rw [Zfe es k (Zb6 es[k] m q) (by unfold Zb6;rw [if_neg (by omega),hR2];rfl)]
  rfl
end Go.Proofs.Ytigknndkmlhmfaa
end

section
namespace Go.Proofs.Ytigknndkmlhmfaa
open Go Go.AM
set_option linter.unusedSimpArgs false
set_option linter.unusedVariables false
set_option maxRecDepth 100000
theorem ZcH (a b:List Ms):tk (a++b)=tk a++tk b:=by
 unfold tk;rw [List.map_append,List.filter_append]
theorem ZjA {α:Type} {l:List α} {k:Nat} (h:k < l.length):l=l.take k++l[k]::l.drop (k+1):=by
 rw [← List.drop_eq_getElem_cons h,List.take_append_drop]
theorem Zjb {α:Type} {l:List α} {k:Nat} (h:k < l.length) (a:α):l.set k a=l.take k++a::l.drop (k+1):=List.set_eq_take_append_cons_drop ▸ by rw [if_pos h]
theorem ZlV {es:List Ep} {k:Nat} (hk:k < es.length) (e:Ep) {r:List Int} (hp:(tk (e.q++e.s)).Perm (tk (es[k].q++es[k].s)++r)):(tkE (es.set k e)).Perm (tkE es++r):=by
 rw [Zjb hk]
 have h2:tkE es=tkE (es.take k)++(tk (es[k].q++es[k].s)++tkE (es.drop (k+1))):=by
  refine (congrArg tkE (ZjA hk)).trans ?_
  unfold tkE
  rw [List.flatMap_append,List.flatMap_cons]
 rw [h2]
 have h3:tkE (es.take k++e::es.drop (k+1))=tkE (es.take k)++(tk (e.q++e.s)++tkE (es.drop (k+1))):=by simp [tkE]
 rw [h3,List.append_assoc,List.append_assoc]
 refine List.Perm.append_left _ ?_
 refine (hp.append_right _).trans ?_
 rw [List.append_assoc]
 exact List.Perm.append_left _ List.perm_append_comm
theorem ZdE {n n':Int} {es:List Ep} (h:Vld n es) {k:Nat} (hk:k < es.length) {e:Ep} {r:List Int} (he:ZnS e) (ho:e.o=es[k].o) (h1:n≤n') (h2:n'≤1099511627776)
  (hp:(tk (e.q++e.s)).Perm (tk (es[k].q++es[k].s)++r)) (hr:∀ t∈r,n < t∧t≤n') (hnd:r.Nodup):Vld n' (es.set k e):=by
 have hn0:=h.n0
 have hperm:=ZlV hk e hp
 refine ⟨by omega,h2,by rw [List.length_set];exact h.len,fun x hx=>?_,?_,?_,fun t ht=>?_⟩
 ·rcases List.mem_or_eq_of_mem_set hx with hx | rfl
  ·exact h.ok x hx
  ·exact he
 ·have hm:(es.set k e).map Ep.o=es.map Ep.o:=by
   rw [List.map_set,ho]
   apply List.ext_getElem?
   intro j
   rw [List.getElem?_set]
   by_cases hj:k=j
   ·subst hj;simp [hk]
   ·simp [hj]
  have h3:=List.pairwise_map.2 h.ord
  rw [← hm] at h3
  exact List.pairwise_map.1 h3
 ·refine (List.Perm.nodup_iff hperm).2 (List.nodup_append.2 ⟨h.nd,hnd,fun a ha b hb hab=>?_⟩)
  have:=h.le a ha
  have:=(hr b hb).1
  omega
 ·rcases List.mem_append.1 (hperm.mem_iff.1 ht) with ht | ht
  ·have:=h.le t ht;omega
  ·exact (hr t ht).2
theorem Zj6 {n:Int} {es:List Ep} (h:Vld n es) {k:Nat} (hk:k < es.length) {m:Ms} (hm:ZgC m) (h0:m.t=0) (hq:es[k].q.length < 8):Vld n (es.set k { es[k] with q:=es[k].q++[m] }):=by
 have hok:=h.ok _ (List.getElem_mem hk)
 refine ZdE (r:=[]) h hk ⟨hok.o0,hok.o1,hok.v0,hok.v1,by simp;omega,hok.sl,fun x hx=>?_,hok.sm⟩ rfl (Int.le_refl _) h.n1 ?_ (fun t ht=>by cases ht) List.nodup_nil
 ·rcases List.mem_append.1 hx with hx | hx
  ·exact hok.qm x hx
  ·rw [List.mem_singleton] at hx;subst hx;exact hm
 ·have:tk [m] = []:=by simp [tk,h0]
  simp only [ZcH,this,List.append_nil]
  exact List.Perm.refl _
theorem ZkG {n:Int} {es:List Ep} (h:Vld n es) {k:Nat} (hk:k < es.length) {m:Ms} (hm:ZgC m) (h0:m.t=n+1) (hn:n < 1099511627776) (hq:es[k].q.length < 8):Vld (n+1) (es.set k { es[k] with q:=es[k].q++[m] }):=by
 have hok:=h.ok _ (List.getElem_mem hk)
 have hn0:=h.n0
 refine ZdE (r:=[n+1]) h hk ⟨hok.o0,hok.o1,hok.v0,hok.v1,by simp;omega,hok.sl,fun x hx=>?_,hok.sm⟩ rfl (by omega) (by omega) ?_ (fun t ht=>?_) (by simp)
 ·rcases List.mem_append.1 hx with hx | hx
  ·exact hok.qm x hx
  ·rw [List.mem_singleton] at hx;subst hx;exact hm
 ·have:tk [m] = [n+1]:=by simp [tk,h0];omega
  simp only [ZcH,this,List.append_assoc]
  exact List.Perm.append_left _ List.perm_append_comm
 ·rw [List.mem_singleton] at ht;omega
theorem Zkl {n:Int} {es:List Ep} (h:Vld n es) {k:Nat} (hk:k < es.length) {m:Ms} {q:List Ms} (hq:es[k].q=m::q) (hs:es[k].s.length < 400):Vld n (es.set k (Zb6 es[k] m q)):=by
 have hok:=h.ok _ (List.getElem_mem hk)
 have hql:=hok.ql
 rw [hq] at hql
 have hm:ZgC m:=hok.qm m (by rw [hq];simp)
 have hqm:∀ x∈q,ZgC x:=fun x hx=>hok.qm x (by rw [hq];simp [hx])
 have h0:=hm.1
 unfold Zb6
 split
 ·rename_i ht
  refine ZdE (r:=[]) h hk ⟨hok.o0,hok.o1,hok.v0,hok.v1,by simp at hql ⊢; omega,by simp;omega,hqm,fun x hx=>?_⟩ rfl (Int.le_refl _) h.n1 ?_ (fun t ht=>by cases ht) List.nodup_nil
  ·rcases List.mem_append.1 hx with hx | hx
   ·exact hok.sm x hx
   ·rw [List.mem_singleton] at hx;subst hx;exact ⟨hm,by omega⟩
  ·rw [hq]
   have:tk (m::q)=tk [m]++tk q:=ZcH [m] q
   simp only [ZcH,this,List.append_nil]
   rw [List.append_assoc,← List.append_assoc]
   exact List.perm_append_comm
 ·rename_i ht
  refine ZdE (r:=[]) h hk ⟨hok.o0,hok.o1,hok.v0,hok.v1,by simp at hql ⊢; omega,hok.sl,hqm,hok.sm⟩ rfl (Int.le_refl _) h.n1 ?_ (fun t ht=>by cases ht) List.nodup_nil
  rw [hq]
  have h2:tk [m] = []:=by
   have:m.t=0:=by omega
   simp [tk,this]
  have:tk (m::q)=tk [m]++tk q:=ZcH [m] q
  simp only [ZcH,this,h2,List.append_nil,List.nil_append]
  exact List.Perm.refl _
theorem ZlY:Vld 0 []:=⟨by decide,by decide,by decide,(fun e he=>by cases he),List.Pairwise.nil,List.nodup_nil,(fun t ht=>by cases ht)⟩
theorem Zl3 {o v:Int} (h1:0≤o) (h2:o≤1099511627775) (h3:0≤v) (h4:v < 32):Vld 0 [⟨o,v,[],[]⟩]:=
 ⟨by decide,by decide,by simp,fun e he=>by
  rw [List.mem_singleton] at he
  subst he
  exact ⟨h1,h2,h3,h4,by simp,by simp,(fun m hm=>by cases hm),(fun m hm=>by cases hm)⟩,List.pairwise_singleton _ _,by simp [tkE,tk],fun t ht=>by simp [tkE,tk] at ht⟩
theorem s9 (o v:Int) (h1:0≤o) (h2:o≤1099511627775) (h3:0≤v) (h4:v < 32):g9 0 E0 o v=some (0,([⟨o,v,[],[]⟩] : List Ep).map ec,0):=by
 refine YL ?_
 rw [ZnW]
 refine Zd (s22 0 [] ZlY) (Ze (fun h=>by cases h) fun _=>Zd (s37 o h1 h2) (Ze (fun h=>by cases h) fun _=>Zd (s38 v h3 h4) (Ze (fun h=>by cases h) fun _=>Zd (s39 0 [] (by decide) List.Pairwise.nil) (Zm rfl ?_))))
 refine ZH (ZaX (Zj5 (es:=[]) fun e he=>by cases he) _) (Ze (fun h=>by cases h) fun _=>Ze (fun h=>by cases h) fun _=>?_)
 obtain ⟨f,hf⟩:=Znp
 rw [hf]
 refine ZH (ZlX ..) (Ze (fun h=>by cases h) fun _=>Zd (s40 0 [] (by decide) fun e he=>by cases he) ?_)
 refine Zd (a:=[ec ⟨o,v,[],[]⟩]) ?_ (ZW rfl)
 rw [ZmR]
 unfold Zn5
 rw [Y2 (by decide),Y2 (by decide),Y2 (by simp),Y2 (JY (by simp [Zai]) (by decide))]
 rfl
end Go.Proofs.Ytigknndkmlhmfaa
end

section
namespace Go.Proofs.Ytigknndkmlhmfaa
open Go Go.AM
set_option linter.unusedSimpArgs false
set_option linter.unusedVariables false
set_option maxRecDepth 100000
theorem s8:g8=some true:=by kernel_rfl
def S (o v:Int) (q s:List Ms):List Ep:=[⟨o,v,q,s⟩]
theorem ZlK {c:Int} {w:LL} {s:Int} (t:Int) (h0:0≤t) (h1:0≤c) (h2:c < 32) (h3:w.length≤8) (h4 : -1≤s) (h5:s < 64):ZgC ⟨t,c,w,s⟩:=⟨h0,h1,h2,h3,h4,h5⟩
theorem ZjN {n o v:Int} {q s:List Ms} (h:Vld n (S o v q s)) {c:Int} {w:LL} {sl:Int} (hm:ZgC ⟨0,c,w,sl⟩) (hq:q.length < 8) :
  g13 n ((S o v q s).map ec) o c w sl=some (n,(S o v (q++[⟨0,c,w,sl⟩]) s).map ec,0)∧Vld n (S o v (q++[⟨0,c,w,sl⟩]) s):=
 ⟨s13 n (S o v q s) h 0 (by simp [S]) c w sl hm hq,Zj6 h (k:=0) (by simp [S]) hm rfl hq⟩
theorem Zkz {n o v:Int} {q s:List Ms} (h:Vld n (S o v q s)) {c:Int} {w:LL} {sl:Int} (hm:ZgC ⟨0,c,w,sl⟩) (hq:q.length < 8) (hv:v≠c) (hn:n < 1099511627776) :
  g12 n ((S o v q s).map ec) o c w sl=some (n+1,(S o v (q++[⟨n+1,c,w,sl⟩]) s).map ec,n+1,0)∧Vld (n+1) (S o v (q++[⟨n+1,c,w,sl⟩]) s):=
 ⟨s12 n (S o v q s) h 0 (by simp [S]) c w sl hm hq hv hn,ZkG h (k:=0) (by simp [S]) (m:=⟨n+1,c,w,sl⟩) (by have:=h.n0;obtain ⟨_,h2,h3,h4,h5,h6⟩:=hm;exact ⟨by show 0≤n+1;omega,h2,h3,h4,h5,h6⟩) rfl hn hq⟩
theorem Zj8 {n o v:Int} {m:Ms} {q s:List Ms} (h:Vld n (S o v (m::q) s)) (hs:s.length < 400) :
  g14 n ((S o v (m::q) s).map ec) o v=some (n,(S o v q (if 0 < m.t then s++[m] else s)).map ec,m.t,m.c,m.w,m.s,0)∧Vld n (S o v q (if 0 < m.t then s++[m] else s)):=by
 have h1:=s14 n (S o v (m::q) s) h 0 (by simp [S]) m q rfl
 have h2:=Zkl h (k:=0) (by simp [S]) (m:=m) (q:=q) rfl hs
 have h3:(S o v (m::q) s).set 0 (Zb6 ((S o v (m::q) s)[0]'(by simp [S])) m q)=S o v q (if 0 < m.t then s++[m] else s):=by
  show [Zb6 ⟨o,v,m::q,s⟩ m q]=_
  unfold Zb6 S
  split<;>rfl
 rw [h3] at h1 h2
 exact ⟨h1,h2⟩
theorem s10:g10=some (0,E0):=Zm5
theorem Zld {o v:Int} (h1:0≤o) (h2:o≤1099511627775) (h3:0≤v) (h4:v < 32):g9 0 E0 o v=some (0,(S o v [] []).map ec,0)∧Vld 0 (S o v [] []):=⟨s9 o v h1 h2 h3 h4,Zl3 h1 h2 h3 h4⟩
end Go.Proofs.Ytigknndkmlhmfaa
end

section
namespace Go.Proofs.Ytigknndkmlhmfaa
open Go Go.AM
set_option linter.unusedSimpArgs false
set_option linter.unusedVariables false
set_option maxRecDepth 100000
theorem ZoJ (n:Int) (es:List Ep) (h:Vld n es) (k:Nat) (hk:k < es.length) (hq:es[k].q = []) :
  g14 n (es.map ec) es[k].o es[k].v=some (0,E0,0,0,E0,0,2):=by
 refine YL ?_
 have hlen:=h.len
 rw [ZkQ]
 refine Zd (s22 n es h) (Ze (fun h=>by cases h) fun _=>Zd (s39 n es (by omega) h.ord) (Zm rfl ?_))
 refine ZH (ZaX (Zf6 hk h.ord) _) (Ze (fun h=>by cases h) fun _=>ZH (Vv hk _) (Ze (fun h8=>?_) fun _=>ZH (Vv hk _) (Ze (fun h8=>ZW rfl) fun h8=>?_)))
 ·simp only [CQ,ev] at h8;exact (h8 rfl).elim
 ·simp only [CQ,ev,List.length_map,hq,List.length_nil] at h8;exact (h8 rfl).elim
theorem Zix {n o v:Int} {s:List Ms} (h:Vld n (S o v [] s)):g14 n ((S o v [] s).map ec) o v=some (0,E0,0,0,E0,0,2):=ZoJ n (S o v [] s) h 0 (by simp [S]) rfl
theorem ZnP (z:Int):Ret (fun _=>True) (g15 z 1073741824):=by
 rw [ZmF]
 exact Zm (by decide) (Ze (fun _=>ZW trivial) fun _=>ZW trivial)
theorem s11 (l:List Int) (hl:l.length≤maxLen) (K:Nat) (hK:K < 1000):Ret (fun r=>r.2=(Jr l,((K+1:Nat):Int))) (g11 (Jr l) (K:Int) 2):=by
 have he:(Jr l).length=l.length:=by simp [Jr]
 have hm:(iop .max .i64 (l.length:Int) 1)≠0:=by
  show max (l.length:Int) 1≠0
  omega
 have hi:iop .add .i64 (K:Int) 1=((K+1:Nat):Int):=by rw [Zic (by omega) (by omega)];omega
 rw [ZmY,he,hi]
 refine Ze (fun h=>?_) fun h=>?_
 ·simp only [CQ] at h
  have hr:iop .rem .i64 (K:Int) (l.length:Int)=((K % l.length:Nat):Int):=by
   have:iop .rem .i64 (K:Int) (l.length:Int)=(K:Int) % (l.length:Int):=Int.tmod_eq_emod_of_nonneg (a:=(K:Int)) (b:=(l.length:Int)) (by omega)
   rw [this]
   omega
  rw [hr]
  have hlt:K % l.length < l.length:=Nat.mod_lt _ (by omega)
  exact Zm (by omega) (ZH (ZhG hlt _) (Zao (ZnP _) fun _ _=>Zm hm (Zm (by decide) (ZW rfl))))
 ·exact Zm hm (Zm (by decide) (ZW rfl))
theorem ZoH {l:List Int} {j:Nat} (h:j < l.length):List.drop (Int.toNat (j:Int)) (List.take (Int.toNat ((j+1:Nat):Int)) (ZE l))=ZE [l[j]]:=by
 rw [Int.toNat_natCast,Int.toNat_natCast]
 unfold ZE
 rw [← List.map_take,← List.map_drop,List.take_succ_eq_append_getElem h,List.drop_append_of_le_length (by rw [List.length_take];omega),List.drop_of_length_le (by rw [List.length_take];omega)]
 rfl
theorem Zoj (j:Nat):iop .rem .i64 (j:Int) 5=((j % 5:Nat):Int):=by
 have:iop .rem .i64 (j:Int) 5=(j:Int) % 5:=Int.tmod_eq_emod_of_nonneg (a:=(j:Int)) (b:=5) (by omega)
 rw [this]
 omega
def At (ws:List Int) (cs:List Bool) (x:Nat) (m:Ms):Prop:=∃ (h1:x < ws.length) (h2:x < cs.length),m.w=ZE [ws[x]]∧m.c=((x % 5:Nat):Int)∧(cop .gtr m.t 0)=cs[x]
structure Zom (ws:List Int) (cs:List Bool) (i:Nat) (n:Int) (q s:List Ms) (got sent K:Nat):Prop where
 le:got≤sent
 ls:sent≤ws.length
 sum:got+sent=i
 v:Vld n (S 128 7 q s)
 n:n≤(sent:Int)
 sl:s.length≤got
 ql:q.length=sent-got
 q8:q.length≤8
 k:K≤i
 mt:∀ (j:Nat) (hj:j < q.length),At ws cs (got+j) q[j]
theorem s3 (ws:List Int) (cs:List Bool) (ps:List Int) (hp:ps.length≤maxLen):g3 (ZE ws) (Jf cs) (Jr ps)=some true:=by
 refine YL ?_
 have hwl:(ZE ws).length=ws.length:=by simp [ZE]
 have hcl:(Jf cs).length=cs.length:=by simp [Jf]
 rw [ZnY,hwl,hcl]
 refine Ze (fun _=>Zd s8 (ZW rfl)) fun h40=>Ze (fun _=>Zd s8 (ZW rfl)) fun hcs=>?_
 simp only [CQ] at h40 hcs
 obtain ⟨hc,hv⟩:=Zld (o:=128) (v:=7) (by decide) (by decide) (by decide) (by decide)
 refine Zd s10 (Zd hc (Ze (fun h=>?_) fun _=>?_))
 ·simp only [CQ] at h;exact (h rfl).elim
 refine Ys (F:=fun k (s:Int×LL×Int×Int×Int) _=>ZbQ k (ZE ws) (Jf cs) s.1 s.2.1 s.2.2.1 s.2.2.2.1 (Jr ps) s.2.2.2.2) 80
  (fun i st=>∃ n q s got sent K,st=(n,(S 128 7 q s).map ec,((got:Nat):Int),((sent:Nat):Int),((K:Nat):Int))∧Zom ws cs i n q s got sent K) (by decide)
  (fun k i st hi hst next=>?_) (0,(S 128 7 [] []).map ec,0,0,0) ⟨0,[],[],0,0,0,rfl,Nat.le_refl _,Nat.zero_le _,rfl,hv,by decide,by decide,by decide,by decide,by decide,(fun j hj=>by cases hj)⟩
 obtain ⟨n,q,s,got,sent,K,rfl,J⟩:=hst
 have j1:=J.le
 have j2:=J.ls
 have j3:=J.sum
 have j4:=J.ql
 have j5:=J.n
 have j6:=J.sl
 have j7:=J.k
 have j8:=J.q8
 have V:=J.v
 have hinc:∀ x:Nat,x≤100→iop .add .i64 (x:Int) 1=((x+1:Nat):Int):=fun x hx=>by rw [Zic (by omega) (by omega)];omega
 -- a message more
 have more:∀ hs:sent < ws.length,q.length < 8→∀ K':Nat,K'≤i+1→∀ (t:Int) (n':Int),n'≤((sent+1:Nat):Int)→(∀ h:sent < cs.length,(cop .gtr t 0)=cs[sent])→Vld n' (S 128 7 (q++[⟨t,((sent % 5:Nat):Int),ZE [ws[sent]'hs],-1⟩]) s)→
   Zom ws cs (i+1) n' (q++[⟨t,((sent % 5:Nat):Int),ZE [ws[sent]'hs],-1⟩]) s got (sent+1) K':=fun hs hq K' hK t n' hn' ht hV=>
  ⟨by omega,by omega,by omega,hV,hn',j6,by simp;omega,by simp;omega,hK,fun j hj=>by
   by_cases hjq:j < q.length
   ·rw [List.getElem_append_left hjq];exact J.mt j hjq
   ·have hjl:j < q.length+1:=by simpa using hj
    have hje:j=q.length:=by omega
    subst hje
    rw [List.getElem_append_right (Nat.le_refl _)]
    have e:got+q.length=sent:=by omega
    rw [e]
    simp only [Nat.sub_self,List.getElem_cons_zero]
    exact ⟨by omega,by omega,rfl,rfl,ht (by omega)⟩⟩
 have hsend:sent < ws.length→q.length < 8→∀ K':Nat,K'≤i+1→Ret (fun r=>r=true) (ZN (Jf cs) (sent:Int) [.bool] fun (r11:Bool)=>
   if r11=true then
    Zu ((5:Int)≠0)<|Zu ((0:Int)≤(sent:Int))<|Zu ((sent:Int)≤(iop .add .i64 (sent:Int) 1))<|Zu (((iop .add .i64 (sent:Int) 1):Int)≤(List.length (ZE ws):Int))<|
    (g12 n ((S 128 7 q s).map ec) 128 (iop .rem .i64 (sent:Int) 5) (List.drop (Int.toNat (sent:Int)) (List.take (Int.toNat (iop .add .i64 (sent:Int) 1)) (ZE ws))) (-1)).bind fun (r12:Int×LL×Int×Int)=>
    if (cop .neq r12.2.2.2 0)=true then some (false) else ZbQ k (ZE ws) (Jf cs) r12.1 r12.2.1 (got:Int) (iop .add .i64 (sent:Int) 1) (Jr ps) (K':Int)
   else
    Zu ((5:Int)≠0)<|Zu ((0:Int)≤(sent:Int))<|Zu ((sent:Int)≤(iop .add .i64 (sent:Int) 1))<|Zu (((iop .add .i64 (sent:Int) 1):Int)≤(List.length (ZE ws):Int))<|
    (g13 n ((S 128 7 q s).map ec) 128 (iop .rem .i64 (sent:Int) 5) (List.drop (Int.toNat (sent:Int)) (List.take (Int.toNat (iop .add .i64 (sent:Int) 1)) (ZE ws))) (-1)).bind fun (r12:Int×LL×Int)=>
    if (cop .neq r12.2.2 0)=true then some (false) else ZbQ k (ZE ws) (Jf cs) r12.1 r12.2.1 (got:Int) (iop .add .i64 (sent:Int) 1) (Jr ps) (K':Int)):=by
  intro hs hq K' hK
  have hm:ZgC ⟨0,((sent % 5:Nat):Int),ZE [ws[sent]],-1⟩:=ZlK 0 (by decide) (by omega) (by omega) (by simp [ZE]) (by decide) (by decide)
  rw [hinc sent (by omega),Zoj,ZoH hs,hwl]
  refine ZH (ZcG (by omega) _) (Ze (fun hb=>?_) fun hb=>?_)
  ·obtain ⟨g1,g2⟩:=Zkz V hm hq (by omega) (by omega)
   refine Zm (by decide) (Zm (by omega) (Zm (by omega) (Zm (by omega) (Zd g1 (Ze (fun h=>?_) fun _=>?_)))))
   ·simp only [CQ] at h;exact (h rfl).elim
   ·refine next (by omega) (n+1,_,(got:Int),((sent+1:Nat):Int),(K':Int)) ⟨n+1,_,s,got,sent+1,K',rfl,more hs hq K' hK (n+1) (n+1) (by omega) (fun h=>?_) g2⟩
    rw [hb]
    simp only [CQ]
    have:=V.n0
    omega
  ·obtain ⟨g1,g2⟩:=ZjN V hm hq
   refine Zm (by decide) (Zm (by omega) (Zm (by omega) (Zm (by omega) (Zd g1 (Ze (fun h=>?_) fun _=>?_)))))
   ·simp only [CQ] at h;exact (h rfl).elim
   ·refine next (by omega) (n,_,(got:Int),((sent+1:Nat):Int),(K':Int)) ⟨n,_,s,got,sent+1,K',rfl,more hs hq K' hK 0 n (by omega) (fun h=>?_) g2⟩
    rw [Bool.eq_false_iff.2 hb]
    rfl
 have hrecv:got < sent→∀ K':Nat,K'≤i+1→Ret (fun r=>r=true) ((g14 n ((S 128 7 q s).map ec) 128 7).bind fun (r8:Int×LL×Int×Int×LL×Int×Int)=>
   if (cop .neq r8.2.2.2.2.2.2 0)=true then some (false) else
   if (cop .neq (List.length r8.2.2.2.2.1:Int) 1)=true then some (false) else
   ZN r8.2.2.2.2.1 0 [.int .u64] fun (r15:Int)=>
   ZN (ZE ws) (got:Int) [.int .u64] fun (r16:Int)=>
   if (cop .neq r15 r16)=true then some (false) else
   Zu ((5:Int)≠0)<|
   if (cop .neq r8.2.2.2.1 (iop .rem .i64 (got:Int) 5))=true then some (false) else
   ZN (Jf cs) (got:Int) [.bool] fun (r17:Bool)=>
   if (!((cop .gtr r8.2.2.1 0) == r17))=true then some (false) else
   ZbQ k (ZE ws) (Jf cs) r8.1 r8.2.1 (iop .add .i64 (got:Int) 1) (sent:Int) (Jr ps) (K':Int)):=by
  intro hg K' hK
  obtain ⟨m,q',hq⟩:∃ m q',q=m::q':=by
   cases q with
   | nil => simp at j4; omega
   | cons m q' => exact ⟨m, q', rfl⟩
  obtain ⟨h1,h2,a1,a2,a3⟩:At ws cs (got+0) m:=by
   have:=J.mt 0 (by omega)
   simpa only [hq,List.getElem_cons_zero] using this
  have h1':got < ws.length:=h1
  have h2':got < cs.length:=h2
  have a1':m.w=ZE [ws[got]]:=a1
  have a2':m.c=((got % 5:Nat):Int):=a2
  have a3':(cop .gtr m.t 0)=cs[got]:=a3
  rw [hq] at V
  rw [hq] at j4 j8
  simp only [List.length_cons] at j4 j8
  obtain ⟨r1,r2⟩:=Zj8 V (by omega)
  rw [hinc got (by omega),Zoj,hq]
  refine Zd r1 (Ze (fun h=>?_) fun _=>Ze (fun h=>?_) fun _=>?_)
  ·simp only [CQ] at h;exact (h rfl).elim
  ·simp only [CQ,a1'] at h;exact (h rfl).elim
  refine ZH (YE (sh:=[.int .u64]) (r:=ws[got]) (cs:=[u64 ws[got]]) _ (by decide) (by show m.w[Int.toNat 0]? = _;rw [a1'];rfl) rfl) (ZH (ZgO h1' _) (Ze (fun h=>?_) fun _=>Zm (by decide) (Ze (fun h=>?_) fun _=>ZH (ZcG h2' _) (Ze (fun h=>?_) fun _=>?_))))
  ·simp only [CQ] at h;exact (h rfl).elim
  ·simp only [CQ] at h;exact (h a2').elim
  ·rw [show (cop .gtr (n,(S 128 7 q' (if 0 < m.t then s++[m] else s)).map ec,m.t,m.c,m.w,m.s,(0:Int)).2.2.1 0)=cs[got] from a3'] at h
   simp at h
  ·refine next (by omega) (n,_,((got+1:Nat):Int),(sent:Int),(K':Int)) ⟨n,q',_,got+1,sent,K',rfl,by omega,j2,by omega,r2,j5,?_,by omega,by omega,hK,fun j hj=>?_⟩
   ·split
    ·simp;omega
    ·omega
   ·have:=J.mt (j+1) (by rw [hq];simp;omega)
    have e:got+(j+1)=got+1+j:=by omega
    rw [e] at this
    simpa only [hq,List.getElem_cons_succ] using this
 have hsub:iop .sub .i64 (sent:Int) (got:Int)=((sent-got:Nat):Int):=by rw [Znr (by omega) (by omega)];omega
 have hbody:sent < ws.length→Ret (fun r=>r=true) (ZbQ (k+1) (ZE ws) (Jf cs) n ((S 128 7 q s).map ec) (got:Int) (sent:Int) (Jr ps) (K:Int)):=fun hs=>by
  refine ZH (ZhM ..) (Ze (fun _=>?_) fun h=>?_)
  ·rw [hwl]
   refine Ze (fun _=>?_) fun h=>?_
   ·rw [hsub]
    refine Ze (fun h8=>?_) fun h8=>?_
    ·simp only [CQ] at h8
     refine Zao (s11 ps hp K (by omega)) fun r hr=>?_
     obtain ⟨z,r2⟩:=r
     obtain rfl:r2=(Jr ps,((K+1:Nat):Int)):=hr
     refine Ze (fun _=>?_) fun _=>Ze (fun _=>?_) fun hne=>?_
     ·have:=hsend hs (by omega) (K+1) (by omega)
      rw [hwl] at this
      exact this
     ·have:=hsend hs (by omega) (K+1) (by omega)
      rw [hwl] at this
      exact this
     ·simp only [CQ] at hne
      exact hrecv (by omega) (K+1) (by omega)
    ·simp only [CQ] at h8
     exact hrecv (by omega) K (by omega)
   ·simp only [CQ] at h;omega
  ·rw [hwl] at h;simp only [CQ] at h;omega
 by_cases hs:sent < ws.length
 ·exact hbody hs
 refine ZH (ZhM ..) (Ze (fun h=>?_) fun _=>?_)
 ·rw [hwl] at h;simp only [CQ] at h;omega
 refine Ze (fun hg=>Ze (fun h=>?_) fun _=>?_) fun hg=>?_
 ·rw [hwl] at h;simp only [CQ] at h;omega
 ·simp only [CQ] at hg
  exact hrecv (by omega) K (by omega)
 ·simp only [CQ] at hg
  have hq:q = []:=List.eq_nil_of_length_eq_zero (by omega)
  subst hq
  exact Zd (Zix V) (Ze (fun _=>Zd s8 (ZW rfl)) fun h=>(h rfl).elim)
end Go.Proofs.Ytigknndkmlhmfaa
end
