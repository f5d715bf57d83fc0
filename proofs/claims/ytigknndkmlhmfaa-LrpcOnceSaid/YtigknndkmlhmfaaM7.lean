/- La, Lb, Lc, Ld, Le, Lf, Lg, Lh, Li, Lj, EndL, Lp1, Lp2, Lp3, Lp4, Lk, Lm, Ln, Lr1, Lr2, Lr3, Lr4, Lr5, Lr6, Lo: texts of the proof, put together. -/
import Derived.Test.YtigknndkmlhmfaaGL
import Derived.Test.YtigknndkmlhmfaaRows
import Derived.Test.YtigknndkmlhmfaaChecked
import Derived.Test.YtigknndkmlhmfaaM5
import Derived.JoinedOf
import Derived.JoinedAt
import Derived.RowKit3
import Derived.KernelRfl

section
namespace Go.Proofs.Ytigknndkmlhmfaa
open Go Go.AM
set_option linter.unusedVariables false
set_option maxRecDepth 100000
noncomputable def F65:Fn:=⟨8,[2],[],[],0,[2,5,7],[],Try.f65,[.c (.slice 4)],[.c (.own true 80)],[]⟩
theorem Zr5:F65.S.Ok Try.prog 65:=F65.ok Try.func65 (by kernel_rfl) trivial
noncomputable def g65 (x0:LL):Option (LL):=F65.S.g [.l x0]
theorem Zp0 (x0:LL):g65 x0 =
 (ZiB x0 fun r1=>
 if r1=true then
 some (E0)
 else
 Zv (Jw E0 x0 64)<|
 some ((E0++x0))):=by kernel_rfl
noncomputable def F75:Fn:=⟨8,[2],[],[],0,[2,5,7],[],Try.f75,[.c (.slice 4)],[.c (.own true 41)],[]⟩
theorem ZrW:F75.S.Ok Try.prog 75:=F75.ok Try.func75 (by kernel_rfl) trivial
noncomputable def g75 (x0:LL):Option (LL):=F75.S.g [.l x0]
theorem Zpj (x0:LL):g75 x0 =
 (ZiB x0 fun r1=>
 if r1=true then
 some (E0)
 else
 Zv (Jw E0 x0 48)<|
 some ((E0++x0))):=by kernel_rfl
noncomputable def F43:Fn:=⟨8,[2],[],[],0,[],[],Try.f43,[.c (.slice 1)],[.c (.own false 44)],[]⟩
theorem Zqp:F43.S.Ok Try.prog 43:=F43.ok Try.func43 (by kernel_rfl) trivial
noncomputable def g43 (x0:LL):Option (LL):=F43.S.g [.l x0]
theorem Zpx (x0:LL):g43 x0 =
 (ZiB x0 fun r1=>
 if r1=true then
 some (E0)
 else
 Zv (Jw E0 x0 8)<|
 some ((E0++x0))):=by kernel_rfl
noncomputable def F66:Fn:=⟨24,[2],[(3,[(3,.c (.own true 41)),(8,.c (.int .i64)),(9,.c (.int .i64))])],[],0,[2],[],Try.f66,[.c (.slice 4)],[.c (.own true 41)],[(75,F75.S),(43,F43.S)]⟩
theorem Zr0:F66.S.Ok Try.prog 66:=F66.ok Try.func66 (by kernel_rfl) ⟨ZrW,⟨Zqp,trivial⟩⟩
noncomputable def g66 (x0:LL):Option (LL):=F66.S.g [.l x0]
noncomputable def Zmj (k:Nat) (x0:LL) (x1:Int) (x2:Int):Option (LL):=F66.lp [2] 0 r0 k [.l x0,.i x1,.i x2]
theorem Zl9 (k:Nat) (x0:LL) (x1:Int) (x2:Int):Zmj (k+1) x0 x1 x2 =
 (if (cop .lss x2 x1)=true then
 Zv ((0:Int)≤x2)<|
 Zv ((x2:Int) < (List.length x0:Int))<|
 ZJ x0 x2 [.int .i64,.int .i64,.slice 1,.int .i64] fun (r3:Int×Int×LL×Int)=>
 (g43 r3.2.2.1).bind fun (r7:LL)=>
 Zv ((0:Int)≤x2)<|
 Zv ((x2:Int) < (List.length x0:Int))<|
 Zv ((0:Int)≤x2)<|
 Zv ((x2:Int) < (List.length x0:Int))<|
 Zmj k (Zw x0 (Int.toNat x2) 2 [AV.slice false 1 r7]) x1 (iop .add .i64 x2 1)
 else
 some (x0)):=by kernel_rfl
theorem ZpI (x0:LL):g66 x0 =
 ((g75 x0).bind fun (r1:LL)=>
 Zmj YS r1 (List.length r1:Int) 0):=by kernel_rfl
noncomputable def F40:Fn:=⟨35,[2],[(3,[(1,.box [.int .i64,.own true 2097232]),(2,.box [.int .i64,.slice 4]),(10,.mref 1 2),(11,.c (.int .i64)),(12,.c (.int .i64))])],[],0,[],[(2,[(1,1002)])],Try.f40,[.agg [.int .i64,.slice 4]],[.aggo [.int .i64,.own true 2097232]],[(65,F65.S),(66,F66.S)]⟩
theorem Zo3:F40.S.Ok Try.prog 40:=F40.ok Try.func40 (by kernel_rfl) ⟨Zr5,⟨Zr0,trivial⟩⟩
noncomputable def g40 (x0:Int) (x1:LL):Option (Int×LL):=F40.S.g [.i x0,.l x1]
noncomputable def Zmi (k:Nat) (x0:Int) (x1:LL) (x2:Int) (x3:LL) (x4:Int) (x5:Int):Option (Int×LL):=F40.lp [2] 0 r0 k [.i x0,.l x1,.i x2,.l x3,.i x4,.i x5]
theorem Zmg (k:Nat) (x0:Int) (x1:LL) (x2:Int) (x3:LL) (x4:Int) (x5:Int):Zmi (k+1) x0 x1 x2 x3 x4 x5 =
 (if (cop .lss x5 x4)=true then
 Zv ((0:Int)≤x5)<|
 Zv ((x5:Int) < (List.length x1:Int))<|
 ZJ (Ziz (Kz x1 (Int.toNat x5) 0 4) 0 4) x5 [.int .i64,.int .i64,.slice 4,.slice 4] fun (r6:Int×Int×LL×LL)=>
 (g66 r6.2.2.1).bind fun (r10:LL)=>
 Zv ((0:Int)≤x5)<|
 Zv ((x5:Int) < (List.length (Kz x1 (Int.toNat x5) 0 4):Int))<|
 Zv ((0:Int)≤x5)<|
 Zv ((x5:Int) < (List.length (Kz x1 (Int.toNat x5) 0 4):Int))<|
 (g66 r6.2.2.2).bind fun (r11:LL)=>
 Zv ((0:Int)≤x5)<|
 Zv ((x5:Int) < (List.length (Ye (Kz x1 (Int.toNat x5) 0 4) (Int.toNat x5) 2 (AV.nest 4 true 41 r10)):Int))<|
 Zv ((0:Int)≤x5)<|
 Zv ((x5:Int) < (List.length (Ye (Kz x1 (Int.toNat x5) 0 4) (Int.toNat x5) 2 (AV.nest 4 true 41 r10)):Int))<|
 Zmi k x0 (Ye (Ye (Kz x1 (Int.toNat x5) 0 4) (Int.toNat x5) 2 (AV.nest 4 true 41 r10)) (Int.toNat x5) 3 (AV.nest 4 true 41 r11)) x2 x3 x4 (iop .add .i64 x5 1)
 else
 some (x0,x1)):=by kernel_rfl
theorem ZpF (x0:Int) (x1:LL):g40 x0 x1 =
 ((g65 x1).bind fun (r2:LL)=>
 Zmi YS x0 (ZkV r2) 0 E0 (List.length (ZkV r2):Int) 0):=by kernel_rfl
end Go.Proofs.Ytigknndkmlhmfaa
end

section
namespace Go.Proofs.Ytigknndkmlhmfaa
open Go Go.AM
set_option linter.unusedVariables false
set_option maxRecDepth 100000
def Zi3:Go.Shelf.Ren:=⟨fun | 4=>70 | n=>n,fun | 25=>41 | 0=>0 | 3=>3 | 4=>4 | 9=>9 | 20=>20 | 22=>62 | n=>n,fun | n=>n⟩
theorem Zo7:Go.Proofs.Lays8.n4 Try.prog Zi3:={
 mixed:=by kernel_rfl
 f4:=⟨Try.f70.name,by decide,Try.func70.trans (congrArg some (by kernel_rfl))⟩
 t0:=Try.underlying0
 a0:=Try.isAgg0
 z0:=Try.sizeOf0
 v0:=Try.zeroValue0
 t3:=Try.underlying3
 a3:=Try.isAgg3
 z3:=Try.sizeOf3
 v3:=Try.zeroValue3
 t4:=Try.underlying4
 a4:=Try.isAgg4
 z4:=Try.sizeOf4
 v4:=Try.zeroValue4
 t9:=Try.underlying9
 a9:=Try.isAgg9
 z9:=Try.sizeOf9
 v9:=Try.zeroValue9
 t20:=Try.underlying20
 a20:=Try.isAgg20
 z20:=Try.sizeOf20
 v20:=Try.zeroValue20
 t22:=Try.underlying62
 a22:=Try.isAgg62
 z22:=Try.sizeOf62
 v22:=Try.zeroValue62 }
noncomputable def F70.S:Fun:=Zpo 41 48
theorem Zr9:F70.S.Ok Try.prog 70:=Zlt Zo7 (by kernel_rfl) rfl rfl ⟨Try.f70,Try.func70,by kernel_rfl,by kernel_rfl⟩
noncomputable def g70 (x0:LL) (x1:Int):Option LL:=F70.S.g [.l x0,.i x1]
theorem ZpL (x0:LL) (x1:Int):g70 x0 x1=ZnF 48 x0 x1:=rfl
noncomputable def F44:Fn:=⟨36,[2],[(3,[(0,.c (.slice 1)),(3,.c (.int .i64)),(9,.c (.slice 1)),(10,.c (.int .i64)),(11,.c (.int .i64))]),(11,[(6,.c (.own true 41)),(25,.c (.slice 1)),(26,.c (.int .i64)),(27,.c (.int .i64))])],[],0,[2,33],[],Try.f44,[.c (.slice 1)],[.c (.own true 41)],[(70,F70.S)]⟩
theorem Zq2:F44.S.Ok Try.prog 44:=F44.ok Try.func44 (by kernel_rfl) ⟨Zr9,trivial⟩
noncomputable def g44 (x0:LL):Option (LL):=F44.S.g [.l x0]
noncomputable def ZoJ (k:Nat) (x0:LL) (x1:LL) (x2:Int) (x3:Int):Option (LL):=F44.lp [0,1,2] 0 r0 k [.l x0,.l x1,.i x2,.i x3]
theorem Zd6 (k:Nat) (x0:LL) (x1:LL) (x2:Int) (x3:Int):ZoJ (k+1) x0 x1 x2 x3 =
 (if (cop .lss x3 x2)=true then
 ZJ x1 x3 [.slice 4] fun (r4:LL)=>
 Zv (Jw x0 r4 48)<|
 ZoJ k (x0++r4) x1 x2 (iop .add .i64 x3 1)
 else
 some (x0)):=by kernel_rfl
noncomputable def ZoK (k:Nat) (x0:LL) (x1:Int) (x2:LL) (x3:Int) (x4:Int):Option (LL):=F44.lp [0] 0 r0 k [.l x0,.i x1,.l x2,.i x3,.i x4]
theorem Zek (k:Nat) (x0:LL) (x1:Int) (x2:LL) (x3:Int) (x4:Int):ZoK (k+1) x0 x1 x2 x3 x4 =
 (if (cop .lss x4 x3)=true then
 ZJ x2 x4 [.slice 4] fun (r5:LL)=>
 if (cop .lss (iop .add .i64 x1 (List.length r5:Int)) 0)=true then
 none
 else
 ZoK k x0 (iop .add .i64 x1 (List.length r5:Int)) x2 x3 (iop .add .i64 x4 1)
 else
 (g70 E0 x1).bind fun (r5:LL)=>
 ZoJ YS r5 x0 (List.length x0:Int) 0):=by kernel_rfl
theorem Zp4 (x0:LL):g44 x0 =
 (ZoK YS x0 0 x0 (List.length x0:Int) 0):=by kernel_rfl
noncomputable def F37:Fn:=⟨9,[2],[],[],0,[],[],Try.f37,[.c (.int .i64)],[.c (.bool)],[]⟩
theorem Zrk:F37.S.Ok Try.prog 37:=F37.ok Try.func37 (by kernel_rfl) trivial
noncomputable def g37 (x0:Int):Option (Bool):=F37.S.g [.i x0]
theorem ZpO (x0:Int):g37 x0 =
 (if (cop .geq x0 0)=true then
 some ((cop .leq x0 1099511627775))
 else
 some (false)):=by kernel_rfl
noncomputable def F38:Fn:=⟨9,[2],[],[],0,[],[],Try.f38,[.c (.int .i64)],[.c (.bool)],[]⟩
theorem Zqv:F38.S.Ok Try.prog 38:=F38.ok Try.func38 (by kernel_rfl) trivial
noncomputable def g38 (x0:Int):Option (Bool):=F38.S.g [.i x0]
theorem Zpb (x0:Int):g38 x0 =
 (if (cop .geq x0 0)=true then
 some ((cop .lss x0 32))
 else
 some (false)):=by kernel_rfl
noncomputable def F69:Fn:=⟨27,[2],[],[],0,[],[],Try.f69,[.agg [.int .i64,.int .i64,.slice 1,.int .i64]],[.c (.bool)],[(38,F38.S)]⟩
theorem Zrq:F69.S.Ok Try.prog 69:=F69.ok Try.func69 (by kernel_rfl) ⟨Zqv,trivial⟩
noncomputable def g69 (x0:Int) (x1:Int) (x2:LL) (x3:Int):Option (Bool):=F69.S.g [.i x0,.i x1,.l x2,.i x3]
theorem ZpR (x0:Int) (x1:Int) (x2:LL) (x3:Int):g69 x0 x1 x2 x3 =
 (if (cop .geq x0 0)=true then
 (g38 x1).bind fun (r4:Bool)=>
 if r4=true then
 if (cop .leq (List.length x2:Int) 8)=true then
 if (cop .geq x3 (-1))=true then
 some ((cop .lss x3 64))
 else
 some (false)
 else
 some (false)
 else
 some (false)
 else
 some (false)):=by kernel_rfl
noncomputable def F52:Fn:=⟨38,[2],[(4,[(1,.box [.int .i64,.int .i64,.slice 4,.slice 4]),(12,.c (.slice 4)),(13,.c (.int .i64)),(14,.c (.int .i64))]),(10,[(23,.c (.slice 4)),(24,.c (.int .i64)),(25,.c (.int .i64))])],[],0,[],[],Try.f52,[.agg [.int .i64,.int .i64,.slice 4,.slice 4]],[.c (.bool)],[(69,F69.S)]⟩
theorem ZrH:F52.S.Ok Try.prog 52:=F52.ok Try.func52 (by kernel_rfl) ⟨Zrq,trivial⟩
noncomputable def g52 (x0:Int) (x1:Int) (x2:LL) (x3:LL):Option (Bool):=F52.S.g [.i x0,.i x1,.l x2,.l x3]
noncomputable def ZkD (k:Nat) (x0:LL) (x1:Int) (x2:Int):Option (Bool):=F52.lp [1,0,1,0] 0 r0 k [.l x0,.i x1,.i x2]
theorem ZmJ (k:Nat) (x0:LL) (x1:Int) (x2:Int):ZkD (k+1) x0 x1 x2 =
 (if (cop .lss x2 x1)=true then
 ZJ x0 x2 [.int .i64,.int .i64,.slice 1,.int .i64] fun (r3:Int×Int×LL×Int)=>
 (g69 r3.1 r3.2.1 r3.2.2.1 r3.2.2.2).bind fun (r7:Bool)=>
 if (!r7)=true then
 some (false)
 else
 if (cop .eql r3.1 0)=true then
 some (false)
 else
 ZkD k x0 x1 (iop .add .i64 x2 1)
 else
 some (true)):=by kernel_rfl
noncomputable def Zlw (k:Nat) (x0:Int) (x1:Int) (x2:LL) (x3:LL) (x4:LL) (x5:Int) (x6:Int):Option (Bool):=F52.lp [1,0] 0 r0 k [.i x0,.i x1,.l x2,.l x3,.l x4,.i x5,.i x6]
theorem Zls (k:Nat) (x0:Int) (x1:Int) (x2:LL) (x3:LL) (x4:LL) (x5:Int) (x6:Int):Zlw (k+1) x0 x1 x2 x3 x4 x5 x6 =
 (if (cop .lss x6 x5)=true then
 ZJ x4 x6 [.int .i64,.int .i64,.slice 1,.int .i64] fun (r7:Int×Int×LL×Int)=>
 (g69 r7.1 r7.2.1 r7.2.2.1 r7.2.2.2).bind fun (r11:Bool)=>
 if (!r11)=true then
 some (false)
 else
 Zlw k x0 x1 x2 x3 x4 x5 (iop .add .i64 x6 1)
 else
 ZkD YS x3 (List.length x3:Int) 0):=by kernel_rfl
theorem Zp5 (x0:Int) (x1:Int) (x2:LL) (x3:LL):g52 x0 x1 x2 x3 =
 (if (cop .gtr (List.length x2:Int) 8)=true then
 some (false)
 else
 Zlw YS x0 x1 x2 x3 x2 (List.length x2:Int) 0):=by kernel_rfl
noncomputable def F22:Fn:=⟨92,[2],[(5,[(1,.box [.int .i64,.slice 4]),(3,.c (.own true 1048668)),(24,.c (.slice 4)),(25,.c (.int .i64)),(26,.c (.int .i64))]),(10,[(1,.box [.int .i64,.slice 4]),(3,.c (.own true 1048668)),(24,.c (.slice 4)),(25,.c (.int .i64)),(26,.c (.int .i64)),(67,.c (.own true 41)),(68,.c (.int .i64)),(69,.c (.int .i64))])],[],0,[],[],Try.f22,[.agg [.int .i64,.slice 4]],[.c (.bool)],[(37,F37.S),(38,F38.S),(52,F52.S),(44,F44.S)]⟩
theorem Zng:F22.S.Ok Try.prog 22:=F22.ok Try.func22 (by kernel_rfl) ⟨Zrk,⟨Zqv,⟨ZrH,⟨Zq2,trivial⟩⟩⟩⟩
noncomputable def g22 (x0:Int) (x1:LL):Option (Bool):=F22.S.g [.i x0,.l x1]
noncomputable def Zfl (rec0:List V→Option (Bool)) (k:Nat) (x0:Int) (x1:LL) (x2:LL) (x3:LL) (x4:Int) (x5:Int) (x6:LL) (x7:Int) (x8:Int):Option (Bool):=F22.lp [1,1,1,2,2,1,0,1,0,1,0,0,1,2] 1 (Zlo r0 0 rec0) k [.i x0,.l x1,.l x2,.l x3,.i x4,.i x5,.l x6,.i x7,.i x8]
theorem Zl4 (rec0:List V→Option (Bool)) (k:Nat) (x0:Int) (x1:LL) (x2:LL) (x3:LL) (x4:Int) (x5:Int) (x6:LL) (x7:Int) (x8:Int):Zfl rec0 (k+1) x0 x1 x2 x3 x4 x5 x6 x7 x8 =
 (if (cop .lss x8 x7)=true then
 Zv ((0:Int)≤x8)<|
 Zv ((x8:Int) < (List.length x6:Int))<|
 ZJ x6 x8 [.int .i64,.int .i64,.slice 1,.int .i64] fun (r9:Int×Int×LL×Int)=>
 if (cop .eql r9.1 0)=true then
 Zfl rec0 k x0 x1 x2 x3 x4 x5 x6 x7 (iop .add .i64 x8 1)
 else
 Zv (qop .mapv x2 0=true)<|
 ZJ (Zbx x2 r9.1 [AV.val (.bool false)]) 0 [.bool,.bool] fun (r13:Bool×Bool)=>
 if r13.1=true then
 some (false)
 else
 if (cop .gtr r9.1 x0)=true then
 some (false)
 else
 Zv (qop .mapv x2 0=true)<|
 Zfl rec0 k x0 x1 (Zlg x2 r9.1 [AV.val (.bool true)]) x3 x4 x5 x6 x7 (iop .add .i64 x8 1)
 else
 rec0 [.i x0,.l x1,.l x2,.l x3,.i x4,.i (iop .add .i64 x5 1)]):=by kernel_rfl
noncomputable def Zov (k:Nat) (x0:Int) (x1:LL) (x2:LL) (x3:LL) (x4:Int) (x5:Int):Option (Bool):=F22.lp [1,1,1,0] 0 r0 k [.i x0,.l x1,.l x2,.l x3,.i x4,.i x5]
theorem Zmk (k:Nat) (x0:Int) (x1:LL) (x2:LL) (x3:LL) (x4:Int) (x5:Int):Zov (k+1) x0 x1 x2 x3 x4 x5 =
 (if (cop .lss x5 x4)=true then
 ZJ x3 x5 [.int .i64,.int .i64,.slice 4,.slice 4] fun (r6:Int×Int×LL×LL)=>
 (g37 r6.1).bind fun (r10:Bool)=>
 if (!r10)=true then
 some (false)
 else
 (g38 r6.2.1).bind fun (r11:Bool)=>
 if (!r11)=true then
 some (false)
 else
 (g52 r6.1 r6.2.1 r6.2.2.1 r6.2.2.2).bind fun (r12:Bool)=>
 if (!r12)=true then
 some (false)
 else
 if (cop .gtr x5 0)=true then
 ZJ x1 (iop .sub .i64 x5 1) [.int .i64,.int .i64,.slice 4,.slice 4] fun (r13:Int×Int×LL×LL)=>
 if (cop .geq r13.1 r6.1)=true then
 some (false)
 else
 (g44 ((E0++[[AV.slice false 4 r6.2.2.1]])++[[AV.slice false 4 r6.2.2.2]])).bind fun (r17:LL)=>
 Zfl (F22.lp [1,1,1,0] 0 r0 k) YS x0 x1 x2 x3 x4 x5 r17 (List.length r17:Int) 0
 else
 (g44 ((E0++[[AV.slice false 4 r6.2.2.1]])++[[AV.slice false 4 r6.2.2.2]])).bind fun (r13:LL)=>
 Zfl (F22.lp [1,1,1,0] 0 r0 k) YS x0 x1 x2 x3 x4 x5 r13 (List.length r13:Int) 0
 else
 some (true)):=by kernel_rfl
theorem Zqf (x0:Int) (x1:LL):g22 x0 x1 =
 (if (cop .lss x0 0)=true then
 some (false)
 else
 if (cop .gtr x0 1099511627776)=true then
 some (false)
 else
 if (cop .gtr (List.length x1:Int) 32)=true then
 some (false)
 else
 Zov YS x0 x1 (E0++[[AV.slice false 2 E0]]) x1 (List.length x1:Int) 0):=by kernel_rfl
end Go.Proofs.Ytigknndkmlhmfaa
end

section
namespace Go.Proofs.Ytigknndkmlhmfaa
open Go Go.AM
set_option linter.unusedVariables false
set_option maxRecDepth 100000
noncomputable def F39:Fn:=⟨21,[2],[(3,[(3,.c (.own true 1048653)),(8,.c (.slice 4)),(9,.c (.int .i64)),(10,.c (.int .i64))])],[],0,[],[],Try.f39,[.agg [.int .i64,.slice 4]],[.c (.own true 1048653)],[]⟩
theorem Zqx:F39.S.Ok Try.prog 39:=F39.ok Try.func39 (by kernel_rfl) trivial
noncomputable def g39 (x0:Int) (x1:LL):Option (LL):=F39.S.g [.i x0,.l x1]
noncomputable def ZlK (k:Nat) (x0:LL) (x1:LL) (x2:Int) (x3:Int):Option (LL):=F39.lp [0] 0 r0 k [.l x0,.l x1,.i x2,.i x3]
theorem ZlF (k:Nat) (x0:LL) (x1:LL) (x2:Int) (x3:Int):ZlK (k+1) x0 x1 x2 x3 =
 (if (cop .lss x3 x2)=true then
 ZJ x1 x3 [.int .i64,.int .i64,.slice 4,.slice 4] fun (r4:Int×Int×LL×LL)=>
 Zv (qop .mapv x0 0=true)<|
 ZlK k (Zlg x0 r4.1 [AV.val (.int .i64 x3)]) x1 x2 (iop .add .i64 x3 1)
 else
 some (x0)):=by kernel_rfl
theorem Zpr (x0:Int) (x1:LL):g39 x0 x1 =
 (ZlK YS (E0++[[AV.slice false 2 E0]]) x1 (List.length x1:Int) 0):=by kernel_rfl
noncomputable def F42:Fn:=⟨93,[8,9],[],[],0,[],[(20,[(12,2),(12,2)])],Try.f42,[.agg [.int .i64,.slice 4],.c (.int .i64),.agg [.int .i64,.int .i64,.slice 1,.int .i64],.c (.bool)],[.agg [.int .i64,.slice 4],.c (.int .i64)],[(22,F22.S),(69,F69.S),(39,F39.S),(40,F40.S),(43,F43.S)]⟩
theorem Zrn:F42.S.Ok Try.prog 42:=F42.ok Try.func42 (by kernel_rfl) ⟨Zng,⟨Zrq,⟨Zqx,⟨Zo3,⟨Zqp,trivial⟩⟩⟩⟩⟩
noncomputable def g42 (x0:Int) (x1:LL) (x2:Int) (x3:Int) (x4:Int) (x5:LL) (x6:Int) (x7:Bool):Option (Int×LL×Int):=F42.S.g [.i x0,.l x1,.i x2,.i x3,.i x4,.l x5,.i x6,.b x7]
theorem Zfp (x0:Int) (x1:LL) (x2:Int) (x3:Int) (x4:Int) (x5:LL) (x6:Int) (x7:Bool):g42 x0 x1 x2 x3 x4 x5 x6 x7 =
 ((g22 x0 x1).bind fun (r8:Bool)=>
 if (!r8)=true then
 some (0,E0,74)
 else
 (g69 x3 x4 x5 x6).bind fun (r9:Bool)=>
 if (!r9)=true then
 some (0,E0,1)
 else
 (g39 x0 x1).bind fun (r10:LL)=>
 Zv (qop .mapv r10 0=true)<|
 ZJ (Zbx r10 x2 [AV.val (.int .i64 0)]) 0 [.int .i64,.bool] fun (r11:Int×Bool)=>
 if (!r11.2)=true then
 some (0,E0,17)
 else
 ZJ x1 r11.1 [.int .i64,.int .i64,.slice 4,.slice 4] fun (r13:Int×Int×LL×LL)=>
 if (cop .eql (List.length r13.2.2.1:Int) 8)=true then
 some (0,E0,65)
 else
 if x7=true then
 ZJ x1 r11.1 [.int .i64,.int .i64,.slice 4,.slice 4] fun (r17:Int×Int×LL×LL)=>
 if (cop .eql r17.2.1 x4)=true then
 some (0,E0,4)
 else
 if x7=true then
 if (cop .eql x0 1099511627776)=true then
 some (0,E0,15)
 else
 (g40 x0 x1).bind fun (r21:Int×LL)=>
 if x7=true then
 (g43 x5).bind fun (r23:LL)=>
 Zv ((0:Int)≤r11.1)<|
 Zv ((r11.1:Int) < (List.length r21.2:Int))<|
 Zv ((0:Int)≤r11.1)<|
 Zv (qop (.nst 2 4 41) r21.2 r11.1=true)<|
 Zv (Jw (Wg r21.2 (Int.toNat r11.1) 2) (E0++[[AV.val (.int .i64 (iop .add .i64 r21.1 1)),AV.val (.int .i64 x4),AV.slice false 1 r23,AV.val (.int .i64 x6)]]) 48)<|
 Zv ((0:Int)≤r11.1)<|
 Zv ((r11.1:Int) < (List.length (Ye r21.2 (Int.toNat r11.1) 2 (AV.nest 4 false 41 E0)):Int))<|
 Zv ((0:Int)≤r11.1)<|
 Zv ((r11.1:Int) < (List.length (Ye r21.2 (Int.toNat r11.1) 2 (AV.nest 4 false 41 E0)):Int))<|
 some ((iop .add .i64 r21.1 1),(Wh (Ye (Ye r21.2 (Int.toNat r11.1) 2 (AV.nest 4 false 41 E0)) (Int.toNat r11.1) 2 (AV.nest 4 true 41 ((Wg r21.2 (Int.toNat r11.1) 2)++(E0++[[AV.val (.int .i64 (iop .add .i64 r21.1 1)),AV.val (.int .i64 x4),AV.slice false 1 r23,AV.val (.int .i64 x6)]]))))),0)
 else
 (g43 x5).bind fun (r23:LL)=>
 Zv ((0:Int)≤r11.1)<|
 Zv ((r11.1:Int) < (List.length r21.2:Int))<|
 Zv ((0:Int)≤r11.1)<|
 Zv (qop (.nst 2 4 41) r21.2 r11.1=true)<|
 Zv (Jw (Wg r21.2 (Int.toNat r11.1) 2) (E0++[[AV.val (.int .i64 x3),AV.val (.int .i64 x4),AV.slice false 1 r23,AV.val (.int .i64 x6)]]) 48)<|
 Zv ((0:Int)≤r11.1)<|
 Zv ((r11.1:Int) < (List.length (Ye r21.2 (Int.toNat r11.1) 2 (AV.nest 4 false 41 E0)):Int))<|
 Zv ((0:Int)≤r11.1)<|
 Zv ((r11.1:Int) < (List.length (Ye r21.2 (Int.toNat r11.1) 2 (AV.nest 4 false 41 E0)):Int))<|
 some (r21.1,(Wh (Ye (Ye r21.2 (Int.toNat r11.1) 2 (AV.nest 4 false 41 E0)) (Int.toNat r11.1) 2 (AV.nest 4 true 41 ((Wg r21.2 (Int.toNat r11.1) 2)++(E0++[[AV.val (.int .i64 x3),AV.val (.int .i64 x4),AV.slice false 1 r23,AV.val (.int .i64 x6)]]))))),0)
 else
 (g40 x0 x1).bind fun (r21:Int×LL)=>
 if x7=true then
 (g43 x5).bind fun (r23:LL)=>
 Zv ((0:Int)≤r11.1)<|
 Zv ((r11.1:Int) < (List.length r21.2:Int))<|
 Zv ((0:Int)≤r11.1)<|
 Zv (qop (.nst 2 4 41) r21.2 r11.1=true)<|
 Zv (Jw (Wg r21.2 (Int.toNat r11.1) 2) (E0++[[AV.val (.int .i64 (iop .add .i64 r21.1 1)),AV.val (.int .i64 x4),AV.slice false 1 r23,AV.val (.int .i64 x6)]]) 48)<|
 Zv ((0:Int)≤r11.1)<|
 Zv ((r11.1:Int) < (List.length (Ye r21.2 (Int.toNat r11.1) 2 (AV.nest 4 false 41 E0)):Int))<|
 Zv ((0:Int)≤r11.1)<|
 Zv ((r11.1:Int) < (List.length (Ye r21.2 (Int.toNat r11.1) 2 (AV.nest 4 false 41 E0)):Int))<|
 some ((iop .add .i64 r21.1 1),(Wh (Ye (Ye r21.2 (Int.toNat r11.1) 2 (AV.nest 4 false 41 E0)) (Int.toNat r11.1) 2 (AV.nest 4 true 41 ((Wg r21.2 (Int.toNat r11.1) 2)++(E0++[[AV.val (.int .i64 (iop .add .i64 r21.1 1)),AV.val (.int .i64 x4),AV.slice false 1 r23,AV.val (.int .i64 x6)]]))))),0)
 else
 (g43 x5).bind fun (r23:LL)=>
 Zv ((0:Int)≤r11.1)<|
 Zv ((r11.1:Int) < (List.length r21.2:Int))<|
 Zv ((0:Int)≤r11.1)<|
 Zv (qop (.nst 2 4 41) r21.2 r11.1=true)<|
 Zv (Jw (Wg r21.2 (Int.toNat r11.1) 2) (E0++[[AV.val (.int .i64 x3),AV.val (.int .i64 x4),AV.slice false 1 r23,AV.val (.int .i64 x6)]]) 48)<|
 Zv ((0:Int)≤r11.1)<|
 Zv ((r11.1:Int) < (List.length (Ye r21.2 (Int.toNat r11.1) 2 (AV.nest 4 false 41 E0)):Int))<|
 Zv ((0:Int)≤r11.1)<|
 Zv ((r11.1:Int) < (List.length (Ye r21.2 (Int.toNat r11.1) 2 (AV.nest 4 false 41 E0)):Int))<|
 some (r21.1,(Wh (Ye (Ye r21.2 (Int.toNat r11.1) 2 (AV.nest 4 false 41 E0)) (Int.toNat r11.1) 2 (AV.nest 4 true 41 ((Wg r21.2 (Int.toNat r11.1) 2)++(E0++[[AV.val (.int .i64 x3),AV.val (.int .i64 x4),AV.slice false 1 r23,AV.val (.int .i64 x6)]]))))),0)
 else
 if x7=true then
 if (cop .eql x0 1099511627776)=true then
 some (0,E0,15)
 else
 (g40 x0 x1).bind fun (r17:Int×LL)=>
 if x7=true then
 (g43 x5).bind fun (r19:LL)=>
 Zv ((0:Int)≤r11.1)<|
 Zv ((r11.1:Int) < (List.length r17.2:Int))<|
 Zv ((0:Int)≤r11.1)<|
 Zv (qop (.nst 2 4 41) r17.2 r11.1=true)<|
 Zv (Jw (Wg r17.2 (Int.toNat r11.1) 2) (E0++[[AV.val (.int .i64 (iop .add .i64 r17.1 1)),AV.val (.int .i64 x4),AV.slice false 1 r19,AV.val (.int .i64 x6)]]) 48)<|
 Zv ((0:Int)≤r11.1)<|
 Zv ((r11.1:Int) < (List.length (Ye r17.2 (Int.toNat r11.1) 2 (AV.nest 4 false 41 E0)):Int))<|
 Zv ((0:Int)≤r11.1)<|
 Zv ((r11.1:Int) < (List.length (Ye r17.2 (Int.toNat r11.1) 2 (AV.nest 4 false 41 E0)):Int))<|
 some ((iop .add .i64 r17.1 1),(Wh (Ye (Ye r17.2 (Int.toNat r11.1) 2 (AV.nest 4 false 41 E0)) (Int.toNat r11.1) 2 (AV.nest 4 true 41 ((Wg r17.2 (Int.toNat r11.1) 2)++(E0++[[AV.val (.int .i64 (iop .add .i64 r17.1 1)),AV.val (.int .i64 x4),AV.slice false 1 r19,AV.val (.int .i64 x6)]]))))),0)
 else
 (g43 x5).bind fun (r19:LL)=>
 Zv ((0:Int)≤r11.1)<|
 Zv ((r11.1:Int) < (List.length r17.2:Int))<|
 Zv ((0:Int)≤r11.1)<|
 Zv (qop (.nst 2 4 41) r17.2 r11.1=true)<|
 Zv (Jw (Wg r17.2 (Int.toNat r11.1) 2) (E0++[[AV.val (.int .i64 x3),AV.val (.int .i64 x4),AV.slice false 1 r19,AV.val (.int .i64 x6)]]) 48)<|
 Zv ((0:Int)≤r11.1)<|
 Zv ((r11.1:Int) < (List.length (Ye r17.2 (Int.toNat r11.1) 2 (AV.nest 4 false 41 E0)):Int))<|
 Zv ((0:Int)≤r11.1)<|
 Zv ((r11.1:Int) < (List.length (Ye r17.2 (Int.toNat r11.1) 2 (AV.nest 4 false 41 E0)):Int))<|
 some (r17.1,(Wh (Ye (Ye r17.2 (Int.toNat r11.1) 2 (AV.nest 4 false 41 E0)) (Int.toNat r11.1) 2 (AV.nest 4 true 41 ((Wg r17.2 (Int.toNat r11.1) 2)++(E0++[[AV.val (.int .i64 x3),AV.val (.int .i64 x4),AV.slice false 1 r19,AV.val (.int .i64 x6)]]))))),0)
 else
 (g40 x0 x1).bind fun (r17:Int×LL)=>
 if x7=true then
 (g43 x5).bind fun (r19:LL)=>
 Zv ((0:Int)≤r11.1)<|
 Zv ((r11.1:Int) < (List.length r17.2:Int))<|
 Zv ((0:Int)≤r11.1)<|
 Zv (qop (.nst 2 4 41) r17.2 r11.1=true)<|
 Zv (Jw (Wg r17.2 (Int.toNat r11.1) 2) (E0++[[AV.val (.int .i64 (iop .add .i64 r17.1 1)),AV.val (.int .i64 x4),AV.slice false 1 r19,AV.val (.int .i64 x6)]]) 48)<|
 Zv ((0:Int)≤r11.1)<|
 Zv ((r11.1:Int) < (List.length (Ye r17.2 (Int.toNat r11.1) 2 (AV.nest 4 false 41 E0)):Int))<|
 Zv ((0:Int)≤r11.1)<|
 Zv ((r11.1:Int) < (List.length (Ye r17.2 (Int.toNat r11.1) 2 (AV.nest 4 false 41 E0)):Int))<|
 some ((iop .add .i64 r17.1 1),(Wh (Ye (Ye r17.2 (Int.toNat r11.1) 2 (AV.nest 4 false 41 E0)) (Int.toNat r11.1) 2 (AV.nest 4 true 41 ((Wg r17.2 (Int.toNat r11.1) 2)++(E0++[[AV.val (.int .i64 (iop .add .i64 r17.1 1)),AV.val (.int .i64 x4),AV.slice false 1 r19,AV.val (.int .i64 x6)]]))))),0)
 else
 (g43 x5).bind fun (r19:LL)=>
 Zv ((0:Int)≤r11.1)<|
 Zv ((r11.1:Int) < (List.length r17.2:Int))<|
 Zv ((0:Int)≤r11.1)<|
 Zv (qop (.nst 2 4 41) r17.2 r11.1=true)<|
 Zv (Jw (Wg r17.2 (Int.toNat r11.1) 2) (E0++[[AV.val (.int .i64 x3),AV.val (.int .i64 x4),AV.slice false 1 r19,AV.val (.int .i64 x6)]]) 48)<|
 Zv ((0:Int)≤r11.1)<|
 Zv ((r11.1:Int) < (List.length (Ye r17.2 (Int.toNat r11.1) 2 (AV.nest 4 false 41 E0)):Int))<|
 Zv ((0:Int)≤r11.1)<|
 Zv ((r11.1:Int) < (List.length (Ye r17.2 (Int.toNat r11.1) 2 (AV.nest 4 false 41 E0)):Int))<|
 some (r17.1,(Wh (Ye (Ye r17.2 (Int.toNat r11.1) 2 (AV.nest 4 false 41 E0)) (Int.toNat r11.1) 2 (AV.nest 4 true 41 ((Wg r17.2 (Int.toNat r11.1) 2)++(E0++[[AV.val (.int .i64 x3),AV.val (.int .i64 x4),AV.slice false 1 r19,AV.val (.int .i64 x6)]]))))),0)):=by kernel_rfl
noncomputable def F13:Fn:=⟨21,[10,11],[],[],0,[],[],Try.f13,[.agg [.int .i64,.slice 4],.c (.int .i64),.c (.int .i64),.c (.slice 1),.c (.int .i64)],[.agg [.int .i64,.slice 4],.c (.int .i64)],[(42,F42.S)]⟩
theorem ZrE:F13.S.Ok Try.prog 13:=F13.ok Try.func13 (by kernel_rfl) ⟨Zrn,trivial⟩
noncomputable def g13 (x0:Int) (x1:LL) (x2:Int) (x3:Int) (x4:LL) (x5:Int):Option (Int×LL×Int):=F13.S.g [.i x0,.l x1,.i x2,.i x3,.l x4,.i x5]
theorem Zkr (x0:Int) (x1:LL) (x2:Int) (x3:Int) (x4:LL) (x5:Int):g13 x0 x1 x2 x3 x4 x5 =
 ((g42 x0 x1 x2 0 x3 x4 x5 false).bind fun (r6:Int×LL×Int)=>
 some (r6.1,r6.2.1,r6.2.2)):=by kernel_rfl
noncomputable def F12:Fn:=⟨27,[10,11,12],[],[],0,[],[],Try.f12,[.agg [.int .i64,.slice 4],.c (.int .i64),.c (.int .i64),.c (.slice 1),.c (.int .i64)],[.agg [.int .i64,.slice 4],.c (.int .i64),.c (.int .i64)],[(42,F42.S)]⟩
theorem Zrf:F12.S.Ok Try.prog 12:=F12.ok Try.func12 (by kernel_rfl) ⟨Zrn,trivial⟩
noncomputable def g12 (x0:Int) (x1:LL) (x2:Int) (x3:Int) (x4:LL) (x5:Int):Option (Int×LL×Int×Int):=F12.S.g [.i x0,.l x1,.i x2,.i x3,.l x4,.i x5]
theorem Zh0 (x0:Int) (x1:LL) (x2:Int) (x3:Int) (x4:LL) (x5:Int):g12 x0 x1 x2 x3 x4 x5 =
 ((g42 x0 x1 x2 0 x3 x4 x5 true).bind fun (r6:Int×LL×Int)=>
 some (r6.1,r6.2.1,r6.1,r6.2.2)):=by kernel_rfl
end Go.Proofs.Ytigknndkmlhmfaa
end

section
namespace Go.Proofs.Ytigknndkmlhmfaa
open Go Go.AM
set_option linter.unusedVariables false
set_option maxRecDepth 100000
noncomputable def F14:Fn:=⟨92,[6,7,8],[],[],0,[],[(17,[(11,2),(11,2)])],Try.f14,[.agg [.int .i64,.slice 4],.c (.int .i64),.c (.int .i64)],[.agg [.int .i64,.slice 4],.agg [.int .i64,.int .i64,.slice 1,.int .i64],.c (.int .i64)],[(22,F22.S),(39,F39.S),(40,F40.S),(43,F43.S)]⟩
theorem Zrg:F14.S.Ok Try.prog 14:=F14.ok Try.func14 (by kernel_rfl) ⟨Zng,⟨Zqx,⟨Zo3,⟨Zqp,trivial⟩⟩⟩⟩
noncomputable def g14 (x0:Int) (x1:LL) (x2:Int) (x3:Int):Option (Int×LL×Int×Int×LL×Int×Int):=F14.S.g [.i x0,.l x1,.i x2,.i x3]
theorem ZkB (x0:Int) (x1:LL) (x2:Int) (x3:Int):g14 x0 x1 x2 x3 =
 ((g22 x0 x1).bind fun (r4:Bool)=>
 if (!r4)=true then
 some (0,E0,0,0,E0,0,74)
 else
 (g39 x0 x1).bind fun (r5:LL)=>
 Zv (qop .mapv r5 0=true)<|
 ZJ (Zbx r5 x2 [AV.val (.int .i64 0)]) 0 [.int .i64,.bool] fun (r6:Int×Bool)=>
 if (!r6.2)=true then
 some (0,E0,0,0,E0,0,17)
 else
 ZJ x1 r6.1 [.int .i64,.int .i64,.slice 4,.slice 4] fun (r8:Int×Int×LL×LL)=>
 if (cop .neq r8.2.1 x3)=true then
 some (0,E0,0,0,E0,0,8)
 else
 ZJ x1 r6.1 [.int .i64,.int .i64,.slice 4,.slice 4] fun (r12:Int×Int×LL×LL)=>
 if (cop .eql (List.length r12.2.2.1:Int) 0)=true then
 some (0,E0,0,0,E0,0,2)
 else
 (g40 x0 x1).bind fun (r16:Int×LL)=>
 Zv ((0:Int)≤r6.1)<|
 Zv ((r6.1:Int) < (List.length r16.2:Int))<|
 ZJ (Ziz (Kz r16.2 (Int.toNat r6.1) 2 1) 2 1) r6.1 [.slice 4] fun (r18:LL)=>
 ZJ r18 0 [.int .i64,.int .i64,.slice 1,.int .i64] fun (r19:Int×Int×LL×Int)=>
 ZJ (Ziz (Kz (Kz r16.2 (Int.toNat r6.1) 2 1) (Int.toNat r6.1) 2 1) 2 1) r6.1 [.slice 4] fun (r23:LL)=>
 Zv ((0:Int)≤1)<|
 Zv ((1:Int)≤(List.length r23:Int))<|
 Zv ((0:Int)≤r6.1)<|
 Zv ((r6.1:Int) < (List.length (Kz (Kz r16.2 (Int.toNat r6.1) 2 1) (Int.toNat r6.1) 2 1):Int))<|
 if (cop .gtr r19.1 0)=true then
 Zv ((0:Int)≤r6.1)<|
 Zv (qop (.nst 3 4 41) (Zw (Kz (Kz r16.2 (Int.toNat r6.1) 2 1) (Int.toNat r6.1) 2 1) (Int.toNat r6.1) 2 [AV.slice false 4 (List.drop (Int.toNat 1) r23)]) r6.1=true)<|
 Zv (Jw (Wg (Zw (Kz (Kz r16.2 (Int.toNat r6.1) 2 1) (Int.toNat r6.1) 2 1) (Int.toNat r6.1) 2 [AV.slice false 4 (List.drop (Int.toNat 1) r23)]) (Int.toNat r6.1) 3) (E0++[[AV.val (.int .i64 r19.1),AV.val (.int .i64 r19.2.1),AV.slice false 1 r19.2.2.1,AV.val (.int .i64 r19.2.2.2)]]) 48)<|
 Zv ((0:Int)≤r6.1)<|
 Zv ((r6.1:Int) < (List.length (Ye (Zw (Kz (Kz r16.2 (Int.toNat r6.1) 2 1) (Int.toNat r6.1) 2 1) (Int.toNat r6.1) 2 [AV.slice false 4 (List.drop (Int.toNat 1) r23)]) (Int.toNat r6.1) 3 (AV.nest 4 false 41 E0)):Int))<|
 (g43 r19.2.2.1).bind fun (r24:LL)=>
 some (r16.1,(Wh (Ye (Ye (Zw (Kz (Kz r16.2 (Int.toNat r6.1) 2 1) (Int.toNat r6.1) 2 1) (Int.toNat r6.1) 2 [AV.slice false 4 (List.drop (Int.toNat 1) r23)]) (Int.toNat r6.1) 3 (AV.nest 4 false 41 E0)) (Int.toNat r6.1) 3 (AV.nest 4 true 41 ((Wg (Zw (Kz (Kz r16.2 (Int.toNat r6.1) 2 1) (Int.toNat r6.1) 2 1) (Int.toNat r6.1) 2 [AV.slice false 4 (List.drop (Int.toNat 1) r23)]) (Int.toNat r6.1) 3)++(E0++[[AV.val (.int .i64 r19.1),AV.val (.int .i64 r19.2.1),AV.slice false 1 r19.2.2.1,AV.val (.int .i64 r19.2.2.2)]]))))),r19.1,r19.2.1,r24,r19.2.2.2,0)
 else
 some (r16.1,(Wh (Zw (Kz (Kz r16.2 (Int.toNat r6.1) 2 1) (Int.toNat r6.1) 2 1) (Int.toNat r6.1) 2 [AV.slice false 4 (List.drop (Int.toNat 1) r23)])),r19.1,r19.2.1,r19.2.2.1,r19.2.2.2,0)):=by kernel_rfl
end Go.Proofs.Ytigknndkmlhmfaa
end

section
namespace Go.Proofs.Ytigknndkmlhmfaa
open Go Go.AM
set_option linter.unusedVariables false
set_option maxRecDepth 100000
noncomputable def F48.S:Fun:=Zq8 true 41
theorem Zr6:F48.S.Ok Try.prog 48:=delF_ok (T:=62) (B:=4) (I:=3) (U:=0) (e:=41) (bytes:=48) mixed (by kernel_rfl) Try.func48 (by kernel_rfl) ⟨by kernel_rfl,by kernel_rfl,by kernel_rfl⟩
noncomputable def g48 (x0:LL) (x1 x2:Int):Option LL:=F48.S.g [.l x0,.i x1,.i x2]
theorem ZpK (x0:LL) (x1 x2:Int):g48 x0 x1 x2=ZpQ x0 x1 x2:=rfl
noncomputable def F47:Fn:=⟨8,[3],[],[1],0,[],[],Try.f47,[.agg [.int .i64,.int .i64,.slice 1,.int .i64],.box [.int .i64]],[.c (.bool)],[]⟩
theorem Zr2:F47.S.Ok Try.prog 47:=F47.ok Try.func47 (by kernel_rfl) trivial
noncomputable def g47 (x0:Int) (x1:Int) (x2:LL) (x3:Int) (x4:Int):Option (Bool×Int):=F47.S.g [.i x0,.i x1,.l x2,.i x3,.i x4]
theorem Zm3 (x0:Int) (x1:Int) (x2:LL) (x3:Int) (x4:Int):g47 x0 x1 x2 x3 x4 =
 (some ((cop .eql x0 x4),x4)):=by kernel_rfl
noncomputable def ZfR:Fn:=⟨19,[4],[(2,[(0,.c (.slice 4)),(1,.clo 47 [19]),(7,.c (.int .i64)),(8,.c (.int .i64)),(19,.gbox [.int .i64])])],[],1,[],[],Try.f46,[.c (.slice 4),.clo 47 [19],.dead,.dead,.dead,.dead,.dead,.dead,.dead,.dead,.dead,.dead,.dead,.dead,.dead,.dead,.dead,.dead,.dead,.gbox [.int .i64]],[.c (.int .i64)],[(47,F47.S)]⟩
theorem ZnZ:ZfR.S.Ok Try.prog 46:=ZfR.ok Try.func46 (by kernel_rfl) ⟨Zr2,trivial⟩
noncomputable def Zhp (x0:LL) (x1:Int):Option (Int×Int):=ZfR.S.g [.l x0,.i x1]
noncomputable def Wm (k:Nat) (x0:LL) (x1:Int) (x2:Int) (x3:Int):Option (Int×Int):=ZfR.lp [0] 0 r0 k [.l x0,.i x1,.i x2,.i x3]
theorem Za7 (k:Nat) (x0:LL) (x1:Int) (x2:Int) (x3:Int):Wm (k+1) x0 x1 x2 x3 =
 (if (cop .lss x2 x1)=true then
 ZJ x0 x2 [.int .i64,.int .i64,.slice 1,.int .i64] fun (r4:Int×Int×LL×Int)=>
 (g47 r4.1 r4.2.1 r4.2.2.1 r4.2.2.2 x3).bind fun (r8:Bool×Int)=>
 if r8.1=true then
 some (x2,r8.2)
 else
 Wm k x0 x1 (iop .add .i64 x2 1) r8.2
 else
 some ((-1),x3)):=by kernel_rfl
theorem ZeJ (x0:LL) (x1:Int):Zhp x0 x1 =
 (Wm YS x0 (List.length x0:Int) 0 x1):=by kernel_rfl
noncomputable def F17:Fn:=⟨76,[8,9,10],[(6,[(2,.c (.int .i64)),(3,.c (.slice 1)),(4,.box [.int .i64,.slice 4]),(5,.box [.int .i64]),(8,.box [.int .i64,.slice 4]),(9,.box [.int .i64,.int .i64,.int .i64,.slice 1]),(26,.c (.slice 4)),(27,.c (.int .i64)),(28,.c (.int .i64))])],[],0,[],[(14,[(14,2),(14,2)])],Try.f17,[.agg [.int .i64,.slice 4],.c (.int .i64),.c (.int .i64),.c (.slice 1)],[.agg [.int .i64,.slice 4],.agg [.int .i64,.int .i64,.int .i64,.slice 1],.c (.int .i64)],[(22,F22.S),(46,ZfR.S),(40,F40.S),(48,F48.S),(43,F43.S)]⟩
theorem Zrv:F17.S.Ok Try.prog 17:=F17.ok Try.func17 (by kernel_rfl) ⟨Zng,⟨ZnZ,⟨Zo3,⟨Zr6,⟨Zqp,trivial⟩⟩⟩⟩⟩
noncomputable def g17 (x0:Int) (x1:LL) (x2:Int) (x3:Int) (x4:LL):Option (Int×LL×Int×Int×Int×LL×Int):=F17.S.g [.i x0,.l x1,.i x2,.i x3,.l x4]
noncomputable def Zl3 (k:Nat) (x0:Int) (x1:LL) (x2:Int) (x3:LL) (x4:Int) (x5:Int) (x6:LL) (x7:Int) (x8:Int) (x9:Int) (x10:LL) (x11:LL) (x12:Int) (x13:Int):Option (Int×LL×Int×Int×Int×LL×Int):=F17.lp [0,1,1,0] 0 r0 k [.i x0,.l x1,.i x2,.l x3,.i x4,.i x5,.l x6,.i x7,.i x8,.i x9,.l x10,.l x11,.i x12,.i x13]
theorem ZlH (k:Nat) (x0:Int) (x1:LL) (x2:Int) (x3:LL) (x4:Int) (x5:Int) (x6:LL) (x7:Int) (x8:Int) (x9:Int) (x10:LL) (x11:LL) (x12:Int) (x13:Int):Zl3 (k+1) x0 x1 x2 x3 x4 x5 x6 x7 x8 x9 x10 x11 x12 x13 =
 (if (cop .lss x13 x12)=true then
 ZJ x11 x13 [.int .i64,.int .i64,.slice 4,.slice 4] fun (r14:Int×Int×LL×LL)=>
 (Zhp r14.2.2.2 x4).bind fun (r18:Int×Int)=>
 if (cop .lss r18.1 0)=true then
 Zl3 k x0 x1 x2 x3 r18.2 x5 x6 x7 x8 x9 x10 x11 x12 (iop .add .i64 x13 1)
 else
 if (cop .neq r14.2.1 x0)=true then
 some (0,E0,0,0,0,E0,8)
 else
 (g40 x2 x3).bind fun (r20:Int×LL)=>
 Zv ((0:Int)≤x13)<|
 Zv ((x13:Int) < (List.length r20.2:Int))<|
 Zv ((0:Int)≤x13)<|
 Zv (qop (.nst 3 4 41) r20.2 x13=true)<|
 (g48 (Wg r20.2 (Int.toNat x13) 3) r18.1 (iop .add .i64 r18.1 1)).bind fun (r22:LL)=>
 Zv ((0:Int)≤x13)<|
 Zv ((x13:Int) < (List.length (Ye r20.2 (Int.toNat x13) 3 (AV.nest 4 false 41 E0)):Int))<|
 Zv ((0:Int)≤x13)<|
 Zv ((x13:Int) < (List.length (Ye r20.2 (Int.toNat x13) 3 (AV.nest 4 false 41 E0)):Int))<|
 ZJ r14.2.2.2 r18.1 [.int .i64,.int .i64,.slice 1,.int .i64] fun (r23:Int×Int×LL×Int)=>
 (g43 x1).bind fun (r27:LL)=>
 some (r20.1,(Wh (Ye (Ye r20.2 (Int.toNat x13) 3 (AV.nest 4 false 41 E0)) (Int.toNat x13) 3 (AV.nest 4 true 41 r22))),r18.2,r23.2.1,0,r27,0)
 else
 some (0,E0,0,0,0,E0,17)):=by kernel_rfl
theorem Zp8 (x0:Int) (x1:LL) (x2:Int) (x3:Int) (x4:LL):g17 x0 x1 x2 x3 x4 =
 ((g22 x0 x1).bind fun (r5:Bool)=>
 if (!r5)=true then
 some (0,E0,0,0,0,E0,74)
 else
 if (cop .gtr (List.length x4:Int) 8)=true then
 some (0,E0,0,0,0,E0,1)
 else
 Zl3 YS x3 x4 x0 x1 x2 0 E0 0 0 0 E0 x1 (List.length x1:Int) 0):=by kernel_rfl
end Go.Proofs.Ytigknndkmlhmfaa
end

section
namespace Go.Proofs.Ytigknndkmlhmfaa
open Go Go.AM
set_option linter.unusedVariables false
set_option maxRecDepth 100000
noncomputable def F10:Fn:=⟨2,[0],[],[],0,[],[],Try.f10,[],[.agg [.int .i64,.slice 4]],[]⟩
theorem Zrl:F10.S.Ok Try.prog 10:=F10.ok Try.func10 (by kernel_rfl) trivial
noncomputable def g10:Option (Int×LL):=F10.S.g []
theorem Zqi:g10 =
 (some (0,E0)):=by kernel_rfl
noncomputable def F41.S:Fun:=Zro false 80 64
theorem ZrZ:F41.S.Ok Try.prog 41:=insF_ok (T:=26) (B:=4) (I:=3) (e:=80) (fO:=67) (fR:=68) mixed (by kernel_rfl) Try.func41 (by kernel_rfl) ⟨by kernel_rfl,by kernel_rfl,by kernel_rfl⟩ Try.func67 (by kernel_rfl) (by kernel_rfl) (by kernel_rfl) (by kernel_rfl)
noncomputable def g41 (x0:LL) (x1:Int) (x2:LL):Option LL:=F41.S.g [.l x0,.i x1,.l x2]
theorem Zqj (x0:LL) (x1:Int) (x2:LL):g41 x0 x1 x2=Zra 64 x0 x1 x2:=rfl
noncomputable def F9:Fn:=⟨68,[6,7],[(11,[(1,.c (.int .i64)),(2,.c (.int .i64)),(3,.box [.int .i64,.slice 4]),(6,.box [.int .i64,.slice 4]),(10,.c (.int .i64))])],[],0,[],[(14,[(11,2)])],Try.f9,[.agg [.int .i64,.slice 4],.c (.int .i64),.c (.int .i64)],[.agg [.int .i64,.slice 4],.c (.int .i64)],[(22,F22.S),(37,F37.S),(38,F38.S),(39,F39.S),(40,F40.S),(41,F41.S)]⟩
theorem ok9:F9.S.Ok Try.prog 9:=F9.ok Try.func9 (by kernel_rfl) ⟨Zng,⟨Zrk,⟨Zqv,⟨Zqx,⟨Zo3,⟨ZrZ,trivial⟩⟩⟩⟩⟩⟩
noncomputable def g9 (x0:Int) (x1:LL) (x2:Int) (x3:Int):Option (Int×LL×Int):=F9.S.g [.i x0,.l x1,.i x2,.i x3]
noncomputable def Zqt (k:Nat) (x0:Int) (x1:Int) (x2:Int) (x3:LL) (x4:Int) (x5:LL) (x6:Int):Option (Int×LL×Int):=F9.lp [0,1,0,1,0,1,3,1,1,0] 0 r0 k [.i x0,.i x1,.i x2,.l x3,.i x4,.l x5,.i x6]
theorem ZnO (k:Nat) (x0:Int) (x1:Int) (x2:Int) (x3:LL) (x4:Int) (x5:LL) (x6:Int):Zqt (k+1) x0 x1 x2 x3 x4 x5 x6 =
 (if (cop .lss x6 (List.length x3:Int))=true then
 ZJ x3 x6 [.int .i64,.int .i64,.slice 4,.slice 4] fun (r7:Int×Int×LL×LL)=>
 if (cop .lss r7.1 x0)=true then
 Zqt k x0 x1 x2 x3 x4 x5 (iop .add .i64 x6 1)
 else
 (g40 x2 x3).bind fun (r11:Int×LL)=>
 (g41 (Wh r11.2) x6 (E0++[[AV.val (.int .i64 x0),AV.val (.int .i64 x1),AV.slice false 4 E0,AV.slice false 4 E0]])).bind fun (r13:LL)=>
 some (r11.1,r13,0)
 else
 (g40 x2 x3).bind fun (r7:Int×LL)=>
 (g41 (Wh r7.2) x6 (E0++[[AV.val (.int .i64 x0),AV.val (.int .i64 x1),AV.slice false 4 E0,AV.slice false 4 E0]])).bind fun (r9:LL)=>
 some (r7.1,r9,0)):=by kernel_rfl
theorem Zow (x0:Int) (x1:LL) (x2:Int) (x3:Int):g9 x0 x1 x2 x3 =
 ((g22 x0 x1).bind fun (r4:Bool)=>
 if (!r4)=true then
 some (0,E0,74)
 else
 (g37 x2).bind fun (r5:Bool)=>
 if (!r5)=true then
 some (0,E0,1)
 else
 (g38 x3).bind fun (r6:Bool)=>
 if (!r6)=true then
 some (0,E0,1)
 else
 (g39 x0 x1).bind fun (r7:LL)=>
 Zv (qop .mapv r7 0=true)<|
 ZJ (Zbx r7 x2 [AV.val (.int .i64 0)]) 0 [.int .i64,.bool] fun (r8:Int×Bool)=>
 if r8.2=true then
 some (0,E0,56)
 else
 if (cop .eql (List.length x1:Int) 32)=true then
 some (0,E0,15)
 else
 Zqt YS x2 x3 x0 x1 0 E0 0):=by kernel_rfl
end Go.Proofs.Ytigknndkmlhmfaa
end

section
namespace Go.Proofs.Ytigknndkmlhmfaa
open Go Go.AM
set_option linter.unusedVariables false
set_option maxRecDepth 100000
noncomputable def F8:Fn:=⟨90,[0],[],[],0,[],[],Try.f8,[],[.c (.bool)],[(10,F10.S),(9,F9.S),(12,F12.S),(14,F14.S),(17,F17.S),(22,F22.S)]⟩
theorem ok8:F8.S.Ok Try.prog 8:=F8.ok Try.func8 (by kernel_rfl) ⟨Zrl,⟨ok9,⟨Zrf,⟨Zrg,⟨Zrv,⟨Zng,trivial⟩⟩⟩⟩⟩⟩
noncomputable def g8:Option (Bool):=F8.S.g []
end Go.Proofs.Ytigknndkmlhmfaa
end

section
namespace Go.Proofs.Ytigknndkmlhmfaa
open Go Go.AM
set_option linter.unusedVariables false
set_option maxRecDepth 100000
end Go.Proofs.Ytigknndkmlhmfaa
end

section
namespace Go.Proofs.Ytigknndkmlhmfaa
open Go Go.AM
set_option linter.unusedVariables false
set_option maxRecDepth 100000
noncomputable def F15:Fn:=⟨15,[4],[],[],0,[],[],Try.f15,[.c (.int .i64),.c (.int .i64)],[.c (.int .i64)],[]⟩
theorem ZrQ:F15.S.Ok Try.prog 15:=F15.ok Try.func15 (by kernel_rfl) trivial
noncomputable def g15 (x0:Int) (x1:Int):Option (Int):=F15.S.g [.i x0,.i x1]
theorem Zpl (x0:Int) (x1:Int):g15 x0 x1 =
 (Zv ((x1:Int)≠0)<|
 if (cop .lss (iop .rem .i64 x0 x1) 0)=true then
 some ((iop .add .i64 (iop .rem .i64 x0 x1) x1))
 else
 some ((iop .rem .i64 x0 x1))):=by kernel_rfl
end Go.Proofs.Ytigknndkmlhmfaa
end

section
namespace Go.Proofs.Ytigknndkmlhmfaa
open Go Go.AM
set_option linter.unusedVariables false
set_option maxRecDepth 100000
end Go.Proofs.Ytigknndkmlhmfaa
end

section
namespace Go.Proofs.Ytigknndkmlhmfaa
open Go Go.AM
set_option linter.unusedSimpArgs false
set_option linter.unusedVariables false
set_option maxRecDepth 100000
theorem behind : ∃ ws, behindMainWord (wordsSigns Try.prog.initOrder.toList) = "cut".toList :: ws := by
 have h:Try.prog.initOrder.toList=_:=String.toList_ofList (l:=_)
 rw [h]
 exact ZeF (by kernel_rfl) (by kernel_rfl) (by kernel_rfl) (by kernel_rfl) (by kernel_rfl) (by kernel_rfl)
theorem ZpT:Try.prog.mayEnter=true:=behind.elim fun _ h=>Go.AM.enters_of h (by kernel_rfl) (by kernel_rfl) (by kernel_rfl)
theorem Zq5:Try.prog.liftsFinal=false:=behind.elim fun _ h=>Go.AM.final_of h
theorem Zql:Try.prog.make=some .cut:=behind.elim fun _ h=>Go.AM.make_of h
theorem Zry:laidOutB Try.prog=true:=by kernel_rfl
theorem Zjc:ownKnob Try.prog.godebug=none:=by kernel_rfl
theorem ZhQ {d:Nat} {cs:List AV} (h:TyR Try.prog (d+1) 3 cs):∃ z,cs = [I z]:=by
 simp only [TyR,Try.underlying3] at h
 obtain ⟨z,h,_⟩:=h
 exact ⟨z,h⟩
def u64 (z:Int):AV:=.val (.int .u64 z)
theorem Zpg {d:Nat} {cs:List AV} (h:TyR Try.prog (d+1) 44 cs):∃ z,cs = [u64 z]:=by
 simp only [TyR,Try.underlying44] at h
 obtain ⟨z,h,_⟩:=h
 exact ⟨z,h⟩
theorem arg_int {x:AV} (h:ZcI Try.prog 8 3 x):∃ z,x=I z:=by
 simp only [ZcI,Try.underlying3] at h
 obtain ⟨z,hz⟩:=ZhQ h.2
 exact ⟨z,by simpa using hz⟩
def ZqJ (z:Int):List AV:=[u64 z]
def Zi (l:List Int):LL:=l.map ZqJ
def Zpy (z:Int):List AV:=[I z]
def Zc (l:List Int):LL:=l.map Zpy
theorem ZfT {α β:Type} {f:α→β} {p:α→Prop} : ∀ (xs:List β),(∀ x∈xs,∃ a,x=f a∧p a)→∃ l:List α,xs=l.map f∧∀ a∈l,p a
 | [], _ => ⟨[], rfl, by simp⟩
 | x :: xs, h => by
  obtain ⟨a,h1,h2⟩:=h x (by simp)
  obtain ⟨l,h3,h4⟩:=ZfT xs fun y hy=>h y (by simp [hy])
  refine ⟨a::l,by rw [h1,h3];rfl,fun b hb=>?_⟩
  rcases List.mem_cons.1 hb with rfl | hb
  ·exact h2
  ·exact h4 b hb
def ZnP:List TypeId:=[3,4,22,23,24,28,44,65]
theorem ZqZ (t:TypeId) (h:ZnP.contains t=true):ZaO Try.prog 8 t=true∧t < Try.prog.types.size∧Try.prog.readableRec t=true:=by
 have h2:ZnP.all (fun t=>ZaO Try.prog 8 t&&decide (t < Try.prog.types.size)&&Try.prog.readableRec t)=true:=by kernel_rfl
 rw [List.all_eq_true] at h2
 have:=h2 t (by simpa using h)
 simpa [and_assoc] using this
theorem Zna {n:Nat} (h:n < 2^63):n+1 < YS:=by
 have:(2:Nat)^64≤YS:=by decide
 omega
theorem Kk {α γ:Type} {f:α→List AV} {sh:List Sh} {v:α→ShsT sh} (hf:∀ x,Zld sh (f x)=some (v x)) {l:List α} {i:Nat} (h:i < l.length) (k:ShsT sh→Option γ):ZJ (l.map f) (i:Int) sh k=k (v l[i]):=by
 refine J3 k (by omega) (cs:=f l[i]) ?_ (hf _)
 rw [Int.toNat_natCast,List.getElem?_map,List.getElem?_eq_getElem h]
 rfl
theorem Jb {a b:LL} {k:Nat} (h:a.length+b.length≤4096) (hk:k≤10000):Jw a b k:=by
 unfold Jw Ja
 have:(a.length+b.length)*(k+1)≤4096*10001:=Nat.mul_le_mul h (by omega)
 omega
def Ret {α:Type} (P:α→Prop) (o:Option α):Prop:=∃ r,o=some r∧P r
theorem Zj {α:Type} {P:α→Prop} {a:α} (h:P a):Ret P (some a):=⟨a,rfl,h⟩
theorem Wj {α β:Type} {P:β→Prop} {Q:α→Prop} {o:Option α} {f:α→Option β} (h:Ret Q o) (k:∀ r,Q r→Ret P (f r)):Ret P (o.bind f):=by
 obtain ⟨r,rfl,hr⟩:=h
 exact k r hr
theorem Zb {α:Type} {P:α→Prop} {c:Prop} {_:Decidable c} {a b:Option α} (h1:c→Ret P a) (h2:¬ c→Ret P b):Ret P (if c then a else b):=by
 split
 ·exact h1 ‹_›
 ·exact h2 ‹_›
theorem Zd {α:Type} {P:α→Prop} {p:Prop} {_:Decidable p} {x:Option α} (h:p) (k:Ret P x):Ret P (Zv p x):=by
 rw [JF h];exact k
theorem Zh {α:Type} {P:α→Prop} {a b:Option α} (h:a=b) (k:Ret P b):Ret P a:=h ▸ k
theorem Za {α β:Type} {P:β→Prop} {o:Option α} {a:α} {f:α→Option β} (h:o=some a) (k:Ret P (f a)):Ret P (o.bind f):=by
 subst h;exact k
theorem ZU {α:Type} {o:Option α} {a:α} (h:Ret (fun r=>r=a) o):o=some a:=by
 obtain ⟨r,e,rfl⟩:=h
 exact e
theorem Zew {σ γ:Type} {P:γ→Prop} {F:Nat→σ→Int→Option γ} {n:Nat} (J:Nat→σ→Prop) (hn:n < 2^63)
  (step:∀ (k i:Nat) (s:σ),i < n→J i s→(∀ s',J (i+1) s'→Ret P (F k s' ((i+1:Nat):Int)))→Ret P (F (k+1) s (i:Int)))
  (last:∀ (k:Nat) (s:σ),J n s→Ret P (F (k+1) s (n:Int))) (s:σ) (h:J 0 s):Ret P (F YS s 0):=by
 have key:∀ (j i fuel:Nat) (s:σ),i+j=n→j < fuel→J i s→Ret P (F fuel s (i:Int)):=by
  intro j
  induction j with
  | zero =>
   intro i fuel s h hf hj
   obtain ⟨q,rfl⟩:∃ q,fuel=q+1:=⟨fuel-1,by omega⟩
   have:i=n:=by omega
   subst this
   exact last q s hj
  | succ j ih =>
   intro i fuel s h hf hj
   obtain ⟨q,rfl⟩:∃ q,fuel=q+1:=⟨fuel-1,by omega⟩
   exact step q i s (by omega) hj fun s' hs=>ih (i+1) q s' (by omega) (by omega) hs
 exact key n 0 YS s (by omega) (by have:=Zna hn;omega) h
theorem ZK {σ γ:Type} {P:γ→Prop} {F:Nat→σ→Int→Option γ} (n:Nat) (J:Nat→σ→Prop) (hn:n < 1000)
  (step:∀ (k i:Nat) (s:σ),i≤n→J i s→(i < n→∀ s',J (i+1) s'→Ret P (F k s' ((i+1:Nat):Int)))→Ret P (F (k+1) s (i:Int))) (s:σ) (h:J 0 s):Ret P (F YS s 0):=by
 refine Zew (F:=F) (n:=n) J (by omega) (fun k i s hi hj ih=>step k i s (by omega) hj fun _=>ih) (fun k s hj=>step k n s (Nat.le_refl _) hj fun h=>absurd h (Nat.lt_irrefl _)) s h
theorem JO {i n:Nat} (h:i≤n) (hn:n < 1000):iop .add .i64 (i:Int) 1=((i+1:Nat):Int):=by
 rw [ZfD (by omega) (by omega)];omega
theorem ZiH {γ:Type} {l:List Int} {i:Nat} (h:i < l.length) (k:Int→Option γ):ZJ (Zi l) (i:Int) [.int .u64] k=k l[i]:=Kk (f:=ZqJ) (sh:=[.int .u64]) (v:=fun x=>x) (fun _=>rfl) h k
theorem Yo {γ:Type} {l:List Int} {i:Nat} (h:i < l.length) (k:Int→Option γ):ZJ (Zc l) (i:Int) [.int .i64] k=k l[i]:=Kk (f:=Zpy) (sh:=[.int .i64]) (v:=fun x=>x) (fun _=>rfl) h k
theorem ZmN {l:LL} {i o:Nat} {v:List AV} (h:∀ r,l[i]? = some r→setCells r o v=r):Zw l i o v=l:=by
 unfold Zw
 apply List.ext_getElem?
 intro j
 rw [List.getElem?_modify]
 by_cases hij:i=j
 ·subst hij
  cases hx:l[i]? with
  | none => rfl
  | some r => simp [h r hx]
 ·cases hx:l[j]? with
  | none => rfl
  | some r => simp [hij]
end Go.Proofs.Ytigknndkmlhmfaa
end

section
namespace Go.Proofs.Ytigknndkmlhmfaa
open Go Go.AM
set_option linter.unusedSimpArgs false
set_option linter.unusedVariables false
set_option maxRecDepth 100000
structure Ms where
 t:Int
 c:Int
 w:LL
 s:Int
def mc (m:Ms):List AV:=[I m.t,I m.c,.slice false 1 m.w,I m.s]
def mv (m:Ms):Int×Int×LL×Int:=(m.t,m.c,m.w,m.s)
def Zcs (m:Ms):Prop:=0≤m.t∧0≤m.c∧m.c < 32∧m.w.length≤8∧-1≤m.s∧m.s < 64
structure Ep where
 o:Int
 v:Int
 q:List Ms
 s:List Ms
def ec (e:Ep):List AV:=[I e.o,I e.v,.slice false 4 (e.q.map mc),.slice false 4 (e.s.map mc)]
def ev (e:Ep):Int×Int×LL×LL:=(e.o,e.v,e.q.map mc,e.s.map mc)
def en (e:Ep):List AV:=[I e.o,I e.v,.nest 4 true 41 (e.q.map mc),.nest 4 true 41 (e.s.map mc)]
theorem K9 {γ:Type} {l:List Ms} {i:Nat} (h:i < l.length) (k:Int×Int×LL×Int→Option γ):ZJ (l.map mc) (i:Int) [.int .i64,.int .i64,.slice 1,.int .i64] k=k (mv l[i]):=Kk (f:=mc) (sh:=[.int .i64,.int .i64,.slice 1,.int .i64]) (v:=mv) (fun _=>rfl) h k
theorem JT {γ:Type} {l:List Ep} {i:Nat} (h:i < l.length) (k:Int×Int×LL×LL→Option γ):ZJ (l.map ec) (i:Int) [.int .i64,.int .i64,.slice 4,.slice 4] k=k (ev l[i]):=Kk (f:=ec) (sh:=[.int .i64,.int .i64,.slice 4,.slice 4]) (v:=ev) (fun _=>rfl) h k
theorem s65 (x:LL) (h:x.length < 1000):g65 x=some x:=by
 rw [Zp0]
 have hr:Jw E0 x 64:=Jb (by simp;omega) (by decide)
 cases x with
 | nil => simp [ZiB, Zv, hr]
 | cons a x => simp [ZiB, Zv, hr]
theorem s75 (x:LL) (h:x.length < 1000):g75 x=some x:=by
 rw [Zpj]
 have hr:Jw E0 x 48:=Jb (by simp;omega) (by decide)
 cases x with
 | nil => simp [ZiB, Zv, hr]
 | cons a x => simp [ZiB, Zv, hr]
theorem s43 (x:LL) (h:x.length < 1000):g43 x=some x:=by
 rw [Zpx]
 have hr:Jw E0 x 8:=Jb (by simp;omega) (by decide)
 cases x with
 | nil => simp [ZiB, Zv, hr]
 | cons a x => simp [ZiB, Zv, hr]
theorem s66 (ms:List Ms) (hl:ms.length < 1000) (hw:∀ m∈ms,m.w.length < 1000):g66 (ms.map mc)=some (ms.map mc):=by
 refine ZU ?_
 rw [ZpI]
 refine Za (s75 _ (by simpa using hl)) ?_
 rw [List.length_map]
 refine ZK (F:=fun k (s:LL) i=>Zmj k s (ms.length:Int) i) ms.length (fun _ s=>s=ms.map mc) hl (fun k i s hi hs next=>?_) (ms.map mc) rfl
 subst hs
 refine Zh (Zl9 ..) (Zb (fun h=>?_) fun _=>Zj rfl)
 simp only [CQ] at h
 have hi':i < ms.length:=by omega
 have r1:(0:Int)≤(i:Int):=Int.natCast_nonneg i
 have r2:(i:Int) < ((ms.map mc).length:Int):=by rw [List.length_map];omega
 refine Zd r1 (Zd r2 (Zh (K9 hi' _) (Za (s43 ms[i].w (hw _ (List.getElem_mem hi'))) (Zd r1 (Zd r2 (Zd r1 (Zd r2 ?_)))))))
 rw [JO hi hl]
 refine next hi' _ (ZmN fun r hr=>?_)
 rw [Int.toNat_natCast,List.getElem?_map,List.getElem?_eq_getElem hi'] at hr
 simp only [Option.map_some,Option.some.injEq] at hr
 subst hr
 rfl
theorem Zp9 (es:List Ep):ZkV (es.map ec)=es.map ec:=by
 unfold ZkV
 rw [List.map_map]
 exact List.map_congr_left fun e _=>rfl
theorem Zjd (es:List Ep):Wh (es.map en)=es.map ec:=by
 unfold Wh
 rw [List.map_map]
 exact List.map_congr_left fun e _=>rfl
def mix (es:List Ep) (i:Nat):LL:=(es.take i).map en++(es.drop i).map ec
theorem ZpN {es:List Ep} {i:Nat} (h:i < es.length):(mix es i)[i]? = some (ec es[i]):=by
 unfold mix
 rw [List.getElem?_append_right (by simp;omega)]
 have:i-((es.take i).map en).length=0:=by simp;omega
 rw [this,List.getElem?_map,List.getElem?_drop,Nat.add_zero,List.getElem?_eq_getElem h]
 rfl
theorem Zha (es:List Ep) (i:Nat):(mix es i).length=es.length:=by
 simp only [mix,List.length_append,List.length_map,List.length_take,List.length_drop];omega
theorem J5 {α:Type} {l:List α} {i:Nat} {f:α→α} {a:α} (h:l[i]? = some a):l.modify i f=l.set i (f a):=by
 apply List.ext_getElem?
 intro j
 rw [List.getElem?_modify,List.getElem?_set]
 have hi:=(List.getElem?_eq_some_iff.1 h).1
 by_cases hij:i=j
 ·subst hij
  rw [h]
  simp [hi]
 ·simp [hij]
theorem ZhK {α:Type} {l:List α} {i:Nat} {f:α→α} {a:α} (h:l[i]? = some a) (hf:f a=a):l.modify i f=l:=by
 rw [J5 h,hf]
 apply List.ext_getElem?
 intro j
 rw [List.getElem?_set]
 have hi:=(List.getElem?_eq_some_iff.1 h).1
 by_cases hij:i=j
 ·subst hij
  rw [h]
  simp [hi]
 ·simp [hij]
theorem Zmb {es:List Ep} {i:Nat} (h:i < es.length):(mix es i).set i (en es[i])=mix es (i+1):=by
 have h1:((es.take i).map en).length=i:=by simp;omega
 unfold mix
 rw [List.set_append_right _ _ (by omega),h1,Nat.sub_self,List.drop_eq_getElem_cons h,List.map_cons,List.set_cons_zero,List.take_succ_eq_append_getElem h,List.map_append,List.append_assoc]
 rfl
theorem s40 (n:Int) (es:List Ep) (hl:es.length < 1000) (hq:∀ e∈es,e.q.length < 1000∧e.s.length < 1000∧(∀ m∈e.q,m.w.length < 1000)∧∀ m∈e.s,m.w.length < 1000):g40 n (es.map ec)=some (n,es.map en):=by
 refine ZU ?_
 rw [ZpF]
 refine Za (s65 _ (by simpa using hl)) ?_
 rw [Zp9,List.length_map]
 have h0:es.map ec=mix es 0:=by simp [mix]
 have hn:es.map en=mix es es.length:=by simp [mix]
 rw [h0,hn]
 refine ZK (F:=fun k (s:LL) i=>Zmi k n s 0 E0 (es.length:Int) i) es.length (fun i s=>s=mix es i) hl (fun k i s hi hs next=>?_) (mix es 0) rfl
 subst hs
 refine Zh (Zmg ..) (Zb (fun h=>?_) fun h=>?_)
 ·simp only [CQ] at h
  have hi':i < es.length:=by omega
  have r1:(0:Int)≤(i:Int):=Int.natCast_nonneg i
  have hat:=ZpN hi'
  have hz:Kz (mix es i) i 0 4=mix es i:=ZhK hat rfl
  have hel:∀ (k:Int×Int×LL×LL→Option (Int×LL)),ZJ (Ziz (mix es i) 0 4) (i:Int) [.int .i64,.int .i64,.slice 4,.slice 4] k=k (ev es[i]):=fun k=>J3 (sh:=[.int .i64,.int .i64,.slice 4,.slice 4]) k r1 (cs:=ec es[i]) (by
   rw [Int.toNat_natCast]
   unfold Ziz
   rw [List.getElem?_map,hat]
   rfl) rfl
  have r2:(i:Int) < ((mix es i).length:Int):=by rw [Zha];omega
  obtain ⟨q1,q2,q3,q4⟩:=hq _ (List.getElem_mem hi')
  rw [Int.toNat_natCast,hz]
  obtain ⟨R1,hR1⟩:∃ R1:List AV,R1 = [I es[i].o,I es[i].v,.nest 4 true 41 (es[i].q.map mc),.slice false 4 (es[i].s.map mc)]:=⟨_,rfl⟩
  have hp1:Ye (mix es i) i 2 (.nest 4 true 41 (es[i].q.map mc))=(mix es i).set i R1:=by
   rw [hR1];exact J5 hat
  have hp2:Ye ((mix es i).set i R1) i 3 (.nest 4 true 41 (es[i].s.map mc))=mix es (i+1):=by
   have hb:((mix es i).set i R1)[i]? = some R1:=by rw [List.getElem?_set];simp [Zha,hi']
   have:Ye ((mix es i).set i R1) i 3 (.nest 4 true 41 (es[i].s.map mc))=((mix es i).set i R1).set i (en es[i]):=by
    rw [hR1] at hb ⊢
    exact J5 hb
   rw [this,List.set_set,Zmb hi']
  have r3:(i:Int) < (((mix es i).set i R1).length:Int):=by rw [List.length_set,Zha];omega
  refine Zd r1 (Zd r2 (Zh (hel _) (Za (s66 es[i].q q1 q3) (Zd r1 (Zd r2 (Zd r1 (Zd r2 (Za (s66 es[i].s q2 q4) ?_))))))))
  rw [hp1]
  refine Zd r1 (Zd r3 (Zd r1 (Zd r3 ?_)))
  rw [hp2,JO hi hl]
  exact next hi' _ rfl
 ·simp only [CQ] at h
  have:i=es.length:=by omega
  subst this
  exact Zj rfl
end Go.Proofs.Ytigknndkmlhmfaa
end

section
namespace Go.Proofs.Ytigknndkmlhmfaa
open Go Go.AM
set_option linter.unusedSimpArgs false
set_option linter.unusedVariables false
set_option maxRecDepth 100000
theorem s37 (o:Int) (h0:0≤o) (h1:o≤1099511627775):g37 o=some true:=by
 refine ZU ?_
 rw [ZpO]
 refine Zb (fun _=>Zj ?_) fun h=>?_
 ·simp only [CQ];exact h1
 ·simp only [CQ] at h;omega
theorem s38 (o:Int) (h0:0≤o) (h1:o < 32):g38 o=some true:=by
 refine ZU ?_
 rw [Zpb]
 refine Zb (fun _=>Zj ?_) fun h=>?_
 ·simp only [CQ];exact h1
 ·simp only [CQ] at h;omega
theorem s69 (m:Ms) (h:Zcs m):g69 m.t m.c m.w m.s=some true:=by
 obtain ⟨h1,h2,h3,h4,h5,h6⟩:=h
 refine ZU ?_
 rw [ZpR]
 refine Zb (fun _=>Za (s38 m.c h2 h3) (Zb (fun _=>Zb (fun _=>Zb (fun _=>Zj ?_) fun h=>?_) fun h=>?_) fun h=>?_)) fun h=>?_
 ·simp only [CQ];exact h6
 ·simp only [CQ] at h;omega
 ·simp only [CQ] at h;omega
 ·exact (h rfl).elim
 ·simp only [CQ] at h;omega
structure ZpY (e:Ep):Prop where
 o0:0≤e.o
 o1:e.o≤1099511627775
 v0:0≤e.v
 v1:e.v < 32
 ql:e.q.length≤8
 sl:e.s.length≤400
 qm:∀ m∈e.q,Zcs m
 sm:∀ m∈e.s,Zcs m∧m.t≠0
theorem s52 (e:Ep) (h:ZpY e):g52 e.o e.v (e.q.map mc) (e.s.map mc)=some true:=by
 refine ZU ?_
 have hql:=h.ql
 have hsl:=h.sl
 rw [Zp5]
 refine Zb (fun hh=>?_) fun _=>?_
 ·simp only [CQ,List.length_map] at hh;omega
 have hlast:Ret (fun r=>r=true) (ZkD YS (e.s.map mc) (List.length (e.s.map mc):Int) 0):=by
  rw [List.length_map]
  refine ZK (F:=fun k (_:Unit) i=>ZkD k (e.s.map mc) (e.s.length:Int) i) e.s.length (fun _ _=>True) (by omega) (fun k i _ hi _ next=>?_) () trivial
  refine Zh (ZmJ ..) (Zb (fun hh=>?_) fun _=>Zj rfl)
  simp only [CQ] at hh
  have hi':i < e.s.length:=by omega
  obtain ⟨m1,m2⟩:=h.sm _ (List.getElem_mem hi')
  refine Zh (K9 hi' _) (Za (s69 _ m1) (Zb (fun h=>by cases h) fun _=>Zb (fun h=>?_) fun _=>?_))
  ·simp only [CQ,mv] at h;exact (m2 h).elim
  ·rw [JO hi (by omega)]
   exact next hi' () trivial
 rw [List.length_map]
 refine ZK (F:=fun k (_:Unit) i=>Zlw k e.o e.v (e.q.map mc) (e.s.map mc) (e.q.map mc) (e.q.length:Int) i) e.q.length (fun _ _=>True) (by omega) (fun k i _ hi _ next=>?_) () trivial
 refine Zh (Zls ..) (Zb (fun hh=>?_) fun _=>hlast)
 simp only [CQ] at hh
 have hi':i < e.q.length:=by omega
 refine Zh (K9 hi' _) (Za (s69 _ (h.qm _ (List.getElem_mem hi'))) (Zb (fun h=>by cases h) fun _=>?_))
 rw [JO hi (by omega)]
 exact next hi' () trivial
theorem ZqC:∃ q,YS=q+4:=by
 have:(2:Nat)^64≤YS:=by decide
 exact ⟨YS-4,by omega⟩
theorem s70 (n:Nat) (h:n≤1000):g70 E0 (n:Int)=some []:=by
 rw [ZpL]
 unfold ZnF
 rw [JF rfl,JF (Int.natCast_nonneg n),JF (by rw [Int.toNat_natCast];unfold Ja;omega)]
theorem s44 (a b:List Ms) (ha:a.length≤400) (hb:b.length≤400):g44 ((E0++[[AV.slice false 4 (a.map mc)]])++[[AV.slice false 4 (b.map mc)]])=some ((a++b).map mc):=by
 refine ZU ?_
 obtain ⟨L,hL⟩:∃ L:LL,L=((E0++[[AV.slice false 4 (a.map mc)]])++[[AV.slice false 4 (b.map mc)]]):=⟨_,rfl⟩
 rw [← hL]
 have hlen:L.length=2:=by rw [hL];rfl
 have e0:∀ {γ:Type} (k:LL→Option γ),ZJ L 0 [.slice 4] k=k (a.map mc):=fun k=>J3 (sh:=[.slice 4]) k (by decide) (cs:=[AV.slice false 4 (a.map mc)]) (by rw [hL];rfl) rfl
 have e1:∀ {γ:Type} (k:LL→Option γ),ZJ L (0+1:Nat) [.slice 4] k=k (b.map mc):=fun k=>J3 (sh:=[.slice 4]) k (by decide) (cs:=[AV.slice false 4 (b.map mc)]) (by rw [hL];rfl) rfl
 obtain ⟨f,hf⟩:=ZqC
 have i1:iop .add .i64 0 1=((0+1:Nat):Int):=by decide
 have i2:iop .add .i64 ((0+1:Nat):Int) 1=2:=by decide
 have hmap:a.map mc++b.map mc=(a++b).map mc:=by rw [List.map_append]
 have hno:∀ (x y:Nat),x≤1000→y≤1000→iop .add .i64 (x:Int) (y:Int)=((x+y:Nat):Int):=fun x y hx hy=>by
  rw [ZfD (by omega) (by omega)];omega
 rw [Zp4,hlen,hf]
 refine Zh (Zek ..) (Zb (fun _=>?_) fun h=>(h (by decide)).elim)
 refine Zh (e0 _) ?_
 rw [List.length_map,show ((0:Int))=((0:Nat):Int) from rfl,hno 0 a.length (by omega) (by omega)]
 refine Zb (fun h=>?_) fun _=>?_
 ·simp only [CQ] at h;omega
 rw [show iop .add .i64 ((0:Nat):Int) 1=((0+1:Nat):Int) from i1]
 refine Zh (Zek ..) (Zb (fun _=>?_) fun h=>(h (by decide)).elim)
 refine Zh (e1 _) ?_
 rw [List.length_map,hno (0+a.length) b.length (by omega) (by omega)]
 refine Zb (fun h=>?_) fun _=>?_
 ·simp only [CQ] at h;omega
 rw [i2]
 refine Zh (Zek ..) (Zb (fun h=>by cases h) fun _=>?_)
 refine Za (s70 _ (by omega)) ?_
 rw [hlen,hf]
 refine Zh (Zd6 ..) (Zb (fun _=>?_) fun h=>(h (by decide)).elim)
 refine Zh (e0 _) (Zd (Jb (by simp;omega) (by decide)) ?_)
 rw [i1]
 refine Zh (Zd6 ..) (Zb (fun _=>?_) fun h=>(h (by decide)).elim)
 refine Zh (e1 _) (Zd (Jb (by simp;omega) (by decide)) ?_)
 rw [i2]
 refine Zh (Zd6 ..) (Zb (fun h=>by cases h) fun _=>Zj ?_)
 rw [List.nil_append,hmap]
def kv (k:Int):List AV:=[I k,B true]
def ZaC (K:List Int):LL:=[[.slice false 2 (K.map kv)]]
theorem ZnX {K:List Int} {t:Int} (h:t∉K):Zbx (ZaC K) t [AV.val (.bool false)] = [[AV.val (.bool false),AV.val (.bool false)]]:=by
 have hf:(JJ (ZaC K)).find? (fun r=>ZV r == some t)=none:=by
  rw [List.find?_eq_none]
  intro r hr
  obtain ⟨k,hk,rfl⟩:=List.mem_map.1 (show r∈K.map kv from hr)
  show ¬ ((some k == some t)=true)
  intro e
  have:k=t:=by simpa using e
  exact h (this ▸ hk)
 unfold Zbx
 rw [hf]
 rfl
theorem Zor {K:List Int} {t:Int} (h:t∉K):Zlg (ZaC K) t [AV.val (.bool true)]=ZaC (K++[t]):=by
 have ha:((K.map kv).any fun r=>ZV r == some t)=false:=by
  rw [List.any_eq_false]
  intro r hr
  obtain ⟨k,hk,rfl⟩:=List.mem_map.1 hr
  show ¬ ((some k == some t)=true)
  intro e
  have:k=t:=by simpa using e
  exact h (this ▸ hk)
 have hr:JJ (ZaC K)=K.map kv:=rfl
 unfold Zlg Kw
 rw [hr,ha,if_neg Bool.false_ne_true]
 unfold ZaC
 rw [List.map_append]
 rfl
def tk (l:List Ms):List Int:=(l.map Ms.t).filter fun t=>decide (t≠0)
def tkE (es:List Ep):List Int:=es.flatMap fun e=>tk (e.q++e.s)
theorem Zbb {l:List Ms} {j:Nat} (h:j < l.length):tk (l.take (j+1))=if l[j].t=0 then tk (l.take j) else tk (l.take j)++[l[j].t]:=by
 unfold tk
 rw [List.take_succ_eq_append_getElem h,List.map_append,List.filter_append]
 by_cases h0:l[j].t=0
 ·rw [if_pos h0];simp [h0]
 ·rw [if_neg h0];simp [h0]
theorem Zp1 {l:List Ms} (j:Nat):∃ r,tk l=tk (l.take j)++r:=by
 refine ⟨tk (l.drop j),?_⟩
 unfold tk
 rw [← List.filter_append,← List.map_append,List.take_append_drop]
structure Vld (n:Int) (es:List Ep):Prop where
 n0:0≤n
 n1:n≤1099511627776
 len:es.length≤32
 ok:∀ e∈es,ZpY e
 ord:es.Pairwise fun a b=>a.o < b.o
 nd:(tkE es).Nodup
 le:∀ t∈tkE es,t≤n
theorem inner {P:Bool→Prop} (rec0:List V→Option Bool) (n:Int) (es:LL) (K:List Int) (l:List Ms) (x4 x5:Int) (hl:l.length≤800) (hnd:(K++tk l).Nodup) (hle:∀ t∈tk l,t≤n)
  (h:Ret P (rec0 [.i n,.l es,.l (ZaC (K++tk l)),.l es,.i x4,.i (iop .add .i64 x5 1)])) :
  Ret P (Zfl rec0 YS n es (ZaC K) es x4 x5 (l.map mc) (List.length (l.map mc):Int) 0):=by
 rw [List.length_map]
 refine ZK (F:=fun k (s:LL) i=>Zfl rec0 k n es s es x4 x5 (l.map mc) (l.length:Int) i) l.length (fun i s=>s=ZaC (K++tk (l.take i))) (by omega) (fun k i s hi hs next=>?_) (ZaC K) (by simp [tk])
 subst hs
 refine Zh (Zl4 ..) (Zb (fun hh=>?_) fun hh=>?_)
 ·simp only [CQ] at hh
  have hi':i < l.length:=by omega
  have r1:(0:Int)≤(i:Int):=Int.natCast_nonneg i
  have r2:(i:Int) < ((l.map mc).length:Int):=by rw [List.length_map];omega
  refine Zd r1 (Zd r2 (Zh (K9 hi' _) (Zb (fun h0=>?_) fun h0=>?_)))
  ·simp only [CQ,mv] at h0
   rw [JO hi (by omega)]
   exact next hi' _ (by rw [Zbb hi',if_pos h0])
  ·simp only [CQ,mv] at h0
   have hnot:l[i].t∉K++tk (l.take i):=by
    intro hmem
    obtain ⟨r,hr⟩:=Zp1 (l:=l) (i+1)
    rw [hr,Zbb hi',if_neg h0] at hnd
    rw [← List.append_assoc,← List.append_assoc,List.nodup_append] at hnd
    have:=(List.nodup_append.1 hnd.1).2.2 _ hmem _ (List.mem_singleton.2 rfl)
    exact this rfl
   have hmem:l[i].t∈tk l:=by
    unfold tk
    rw [List.mem_filter]
    exact ⟨List.mem_map.2 ⟨l[i],List.getElem_mem hi',rfl⟩,by simp [h0]⟩
   refine Zd rfl ?_
   rw [show (mv l[i]).1=l[i].t from rfl,ZnX hnot]
   refine Zh (J3 (sh:=[.bool,.bool]) (r:=(false,false)) _ (by decide) rfl rfl) (Zb (fun h=>by cases h) fun _=>Zb (fun h1=>?_) fun _=>Zd rfl ?_)
   ·simp only [CQ] at h1
    have:=hle _ hmem
    omega
   ·rw [Zor hnot,JO hi (by omega)]
    exact next hi' _ (by rw [Zbb hi',if_neg h0,List.append_assoc])
 ·simp only [CQ] at hh
  have:i=l.length:=by omega
  subst this
  rw [List.take_length]
  exact h
theorem ZhX {es:List Ep} {j:Nat} (h:j < es.length):tkE (es.take (j+1))=tkE (es.take j)++tk (es[j].q++es[j].s):=by
 unfold tkE
 rw [List.take_succ_eq_append_getElem h,List.flatMap_append]
 simp
theorem ZnN {es:List Ep} (j:Nat):∃ r,tkE es=tkE (es.take j)++r:=by
 refine ⟨tkE (es.drop j),?_⟩
 unfold tkE
 rw [← List.flatMap_append,List.take_append_drop]
theorem s22 (n:Int) (es:List Ep) (h:Vld n es):g22 n (es.map ec)=some true:=by
 refine ZU ?_
 have hlen:=h.len
 have hn0:=h.n0
 have hn1:=h.n1
 rw [Zqf]
 refine Zb (fun hh=>?_) fun _=>Zb (fun hh=>?_) fun _=>Zb (fun hh=>?_) fun _=>?_
 ·simp only [CQ] at hh;omega
 ·simp only [CQ] at hh;omega
 ·simp only [CQ,List.length_map] at hh;omega
 rw [List.length_map]
 refine ZK (F:=fun k (s:LL) i=>Zov k n (es.map ec) s (es.map ec) (es.length:Int) i) es.length (fun i s=>s=ZaC (tkE (es.take i))) (by omega) (fun k i s hi hs next=>?_) _ rfl
 subst hs
 refine Zh (Zmk ..) (Zb (fun hh=>?_) fun _=>Zj rfl)
 simp only [CQ] at hh
 have hi':i < es.length:=by omega
 have he:=h.ok _ (List.getElem_mem hi')
 have hin:Ret (fun r=>r=true) ((g44 ((E0++[[AV.slice false 4 (ev es[i]).2.2.1]])++[[AV.slice false 4 (ev es[i]).2.2.2]])).bind fun (r17:LL)=>
   Zfl (F22.lp [1,1,1,0] 0 r0 k) YS n (es.map ec) (ZaC (tkE (es.take i))) (es.map ec) (es.length:Int) (i:Int) r17 (List.length r17:Int) 0):=by
  refine Za (s44 es[i].q es[i].s (by have:=he.ql;omega) he.sl) ?_
  obtain ⟨r,hr⟩:=ZnN (es:=es) (i+1)
  rw [ZhX hi'] at hr
  have hnd:=h.nd
  have hle:=h.le
  rw [hr] at hnd hle
  refine inner (F22.lp [1,1,1,0] 0 r0 k) n (es.map ec) _ (es[i].q++es[i].s) _ _ (by have:=he.ql;have:=he.sl;simp;omega) (List.nodup_append.1 hnd).1 (fun t ht=>hle t (by simp [ht])) ?_
  rw [JO hi (by omega),← ZhX hi']
  exact next hi' _ rfl
 refine Zh (JT hi' _) (Za (s37 _ he.o0 he.o1) (Zb (fun h=>by cases h) fun _=>Za (s38 _ he.v0 he.v1) (Zb (fun h=>by cases h) fun _=>Za (s52 _ he) (Zb (fun h=>by cases h) fun _=>Zb (fun hp=>?_) fun _=>?_))))
 ·simp only [CQ] at hp
  obtain ⟨j,rfl⟩:∃ j,i=j+1:=⟨i-1,by omega⟩
  have hs:iop .sub .i64 ((j+1:Nat):Int) 1=(j:Int):=by rw [Zmu (by omega) (by omega)];omega
  rw [hs]
  have hj:j < es.length:=by omega
  refine Zh (JT hj _) (Zb (fun hg=>?_) fun _=>hin)
  simp only [CQ,ev] at hg
  have:=List.pairwise_iff_getElem.1 h.ord j (j+1) hj hi' (by omega)
  omega
 ·exact hin
end Go.Proofs.Ytigknndkmlhmfaa
end

section
namespace Go.Proofs.Ytigknndkmlhmfaa
open Go Go.AM
set_option linter.unusedSimpArgs false
set_option linter.unusedVariables false
set_option maxRecDepth 100000
def iv (p:Ep×Nat):List AV:=[I p.1.o,I (p.2:Int)]
def Zlj (es:List Ep):LL:=[[.slice false 2 (es.zipIdx.map iv)]]
theorem Zn4 {es:List Ep} {e:Ep} (h:∀ x∈es,x.o≠e.o):Zlg (Zlj es) e.o [AV.val (.int .i64 (es.length:Int))]=Zlj (es++[e]):=by
 have ha:((es.zipIdx.map iv).any fun r=>ZV r == some e.o)=false:=by
  rw [List.any_eq_false]
  intro r hr
  obtain ⟨p,hp,rfl⟩:=List.mem_map.1 hr
  show ¬ ((some p.1.o == some e.o)=true)
  intro q
  have q':p.1.o=e.o:=by simpa using q
  exact h _ (List.fst_mem_of_mem_zipIdx hp) q'
 have hr:JJ (Zlj es)=es.zipIdx.map iv:=rfl
 unfold Zlg Kw
 rw [hr,ha,if_neg Bool.false_ne_true]
 unfold Zlj
 rw [List.zipIdx_append,List.map_append,Nat.zero_add]
 rfl
theorem s39 (n:Int) (es:List Ep) (hl:es.length < 900) (ho:es.Pairwise fun a b=>a.o < b.o):g39 n (es.map ec)=some (Zlj es):=by
 refine ZU ?_
 rw [Zpr,List.length_map]
 refine ZK (F:=fun k (s:LL) i=>ZlK k s (es.map ec) (es.length:Int) i) es.length (fun i s=>s=Zlj (es.take i)) (by omega) (fun k i s hi hs next=>?_) _ rfl
 subst hs
 refine Zh (ZlF ..) (Zb (fun hh=>?_) fun hh=>?_)
 ·simp only [CQ] at hh
  have hi':i < es.length:=by omega
  refine Zh (JT hi' _) (Zd rfl ?_)
  have hp:=Zn4 (es:=es.take i) (e:=es[i]) (fun x hx=>by
   obtain ⟨j,hj,rfl⟩:=List.getElem_of_mem hx
   rw [List.length_take] at hj
   rw [List.getElem_take]
   have:=List.pairwise_iff_getElem.1 ho j i (by omega) hi' (by omega)
   omega)
  rw [List.length_take,Nat.min_eq_left hi] at hp
  rw [show (ev es[i]).1=es[i].o from rfl,hp,JO hi (by omega),← List.take_succ_eq_append_getElem hi']
  exact next hi' _ rfl
 ·simp only [CQ] at hh
  have:i=es.length:=by omega
  subst this
  rw [List.take_length]
  exact Zj rfl
theorem WQ {es:List Ep} {o:Int} (h:∀ e∈es,e.o≠o):Zbx (Zlj es) o [AV.val (.int .i64 0)] = [[AV.val (.int .i64 0),AV.val (.bool false)]]:=by
 have hf:(JJ (Zlj es)).find? (fun r=>ZV r == some o)=none:=by
  rw [List.find?_eq_none]
  intro r hr
  obtain ⟨p,hp,rfl⟩:=List.mem_map.1 (show r∈es.zipIdx.map iv from hr)
  show ¬ ((some p.1.o == some o)=true)
  intro e
  have e':p.1.o=o:=by simpa using e
  exact h _ (List.fst_mem_of_mem_zipIdx hp) e'
 unfold Zbx
 rw [hf]
 rfl
theorem Zax {es:List Ep} {k:Nat} (hk:k < es.length) (ho:es.Pairwise fun a b=>a.o < b.o):Zbx (Zlj es) es[k].o [AV.val (.int .i64 0)] = [[AV.val (.int .i64 (k:Int)),AV.val (.bool true)]]:=by
 have hf:(JJ (Zlj es)).find? (fun r=>ZV r == some es[k].o)=some (iv (es[k],k)):=by
  show (es.zipIdx.map iv).find? _=_
  rw [List.find?_eq_some_iff_getElem]
  refine ⟨?_,k,by simpa using hk,by simp,fun j hj=>?_⟩
  ·show (some es[k].o == some es[k].o)=true
   simp
  ·have hj':j < es.length:=by omega
   have:((es.zipIdx.map iv)[j]'(by simpa using hj'))=iv (es[j],j):=by simp
   rw [this]
   have:=List.pairwise_iff_getElem.1 ho j k hj' hk hj
   show (!(some es[j].o == some es[k].o))=true
   simp
   omega
 unfold Zbx
 rw [hf]
 rfl
theorem Yv {γ:Type} {L:LL} {z:Int} {b:Bool} (h:L = [[AV.val (.int .i64 z),AV.val (.bool b)]]) (k:Int×Bool→Option γ):ZJ L 0 [.int .i64,.bool] k=k (z,b):=by
 subst h
 exact J3 (sh:=[.int .i64,.bool]) k (by decide) (cs:=[AV.val (.int .i64 z),AV.val (.bool b)]) rfl rfl
theorem Vld.few {n:Int} {es:List Ep} (h:Vld n es):∀ e∈es,e.q.length < 1000∧e.s.length < 1000∧(∀ m∈e.q,m.w.length < 1000)∧∀ m∈e.s,m.w.length < 1000:=fun e he=>by
 have:=h.ok e he
 refine ⟨by have:=this.ql;omega,by have:=this.sl;omega,fun m hm=>?_,fun m hm=>?_⟩
 ·have:=(this.qm m hm).2.2.2.1;omega
 ·have:=(this.sm m hm).1.2.2.2.1;omega
theorem Zeg (es:List Ep) (k:Nat) (e:Ep) {R:List AV} (h:R.map Zaq=ec e):Wh ((es.map en).set k R)=(es.set k e).map ec:=by
 unfold Wh
 rw [List.map_set,h,List.map_set]
 congr 1
 exact Zjd es
theorem ZnI {es:List Ep} {k:Nat} (hk:k < es.length):(es.map en)[k]? = some (en es[k]):=by
 rw [List.getElem?_map,List.getElem?_eq_getElem hk];rfl
theorem WU {L:LL} {k:Nat} {R:List AV} (hk:k < L.length):(L.set k R)[k]? = some R:=by
 rw [List.getElem?_set];simp [hk]
theorem ZbY {L:LL} {k o s:Nat} {e:TypeId} {r:List AV} {ys:LL} (h:L[k]? = some r) (h2:r[o]? = some (.nest s true e ys)):qop (.nst o s e) L (k:Int)=true:=by
 simp [qop,h,h2]
theorem Zhd {P:Int×LL×Int→Prop} (N:Int) (es:List Ep) (k:Nat) (hk:k < es.length) (m:Ms) (hq:es[k].q.length≤100) (h:P (N,(es.set k { es[k] with q:=es[k].q++[m] }).map ec,0)) :
  Ret P (Zv ((0:Int)≤(k:Int))<|Zv ((k:Int) < (List.length (es.map en):Int))<|Zv ((0:Int)≤(k:Int))<|Zv (qop (.nst 2 4 41) (es.map en) (k:Int)=true)<|
   Zv (Jw (Wg (es.map en) (Int.toNat (k:Int)) 2) (E0++[mc m]) 48)<|Zv ((0:Int)≤(k:Int))<|
   Zv ((k:Int) < (List.length (Ye (es.map en) (Int.toNat (k:Int)) 2 (AV.nest 4 false 41 E0)):Int))<|Zv ((0:Int)≤(k:Int))<|
   Zv ((k:Int) < (List.length (Ye (es.map en) (Int.toNat (k:Int)) 2 (AV.nest 4 false 41 E0)):Int))<|
   some (N,Wh (Ye (Ye (es.map en) (Int.toNat (k:Int)) 2 (AV.nest 4 false 41 E0)) (Int.toNat (k:Int)) 2 (AV.nest 4 true 41 ((Wg (es.map en) (Int.toNat (k:Int)) 2)++(E0++[mc m])))),0)):=by
 have hat:=ZnI hk
 have hlen:k < (es.map en).length:=by simpa using hk
 have hg:Wg (es.map en) k 2=es[k].q.map mc:=by
  unfold Wg
  rw [hat]
  rfl
 have hp1:Ye (es.map en) k 2 (AV.nest 4 false 41 E0)=(es.map en).set k [I es[k].o,I es[k].v,.nest 4 false 41 [],.nest 4 true 41 (es[k].s.map mc)]:=J5 hat
 have hp2:Ye ((es.map en).set k [I es[k].o,I es[k].v,.nest 4 false 41 [],.nest 4 true 41 (es[k].s.map mc)]) k 2 (AV.nest 4 true 41 ((es[k].q++[m]).map mc)) =
   (es.map en).set k (en { es[k] with q:=es[k].q++[m] }):=by
  have:Ye ((es.map en).set k [I es[k].o,I es[k].v,.nest 4 false 41 [],.nest 4 true 41 (es[k].s.map mc)]) k 2 (AV.nest 4 true 41 ((es[k].q++[m]).map mc))=((es.map en).set k _).set k (en { es[k] with q:=es[k].q++[m] }):=J5 (WU hlen)
  rw [this,List.set_set]
 have r1:(0:Int)≤(k:Int):=Int.natCast_nonneg k
 have r2:(k:Int) < (List.length (es.map en):Int):=by omega
 have hm:es[k].q.map mc++(E0++[mc m])=(es[k].q++[m]).map mc:=by simp
 rw [Int.toNat_natCast,hg,hm,hp1,hp2,List.length_set]
 refine Zd r1 (Zd r2 (Zd r1 (Zd ?_ (Zd (Jb (by simp;omega) (by decide)) (Zd r1 (Zd r2 (Zd r1 (Zd r2 ?_))))))))
 ·exact ZbY hat rfl
 ·rw [Zeg es k { es[k] with q:=es[k].q++[m] } rfl]
  exact Zj h
theorem s13 (n:Int) (es:List Ep) (h:Vld n es) (k:Nat) (hk:k < es.length) (c:Int) (w:LL) (s:Int) (hm:Zcs ⟨0,c,w,s⟩) (hq:es[k].q.length < 8) :
  g13 n (es.map ec) es[k].o c w s=some (n,(es.set k { es[k] with q:=es[k].q++[⟨0,c,w,s⟩] }).map ec,0):=by
 refine ZU ?_
 rw [Zkr]
 refine Wj (Q:=fun r=>r=(n,(es.set k { es[k] with q:=es[k].q++[⟨0,c,w,s⟩] }).map ec,0)) ?_ fun r hr=>Zj (by rw [hr])
 rw [Zfp]
 have hlen:=h.len
 refine Za (s22 n es h) (Zb (fun h=>by cases h) fun _=>Za (s69 ⟨0,c,w,s⟩ hm) (Zb (fun h=>by cases h) fun _=>Za (s39 n es (by omega) h.ord) (Zd rfl ?_)))
 refine Zh (Yv (Zax hk h.ord) _) (Zb (fun h=>by cases h) fun _=>Zh (JT hk _) (Zb (fun h8=>?_) fun _=>Zb (fun h=>by cases h) fun _=>Zb (fun h=>by cases h) fun _=>?_))
 ·simp only [CQ,ev,List.length_map] at h8;omega
 refine Za (s40 n es (by omega) h.few) (Zb (fun h=>by cases h) fun _=>Za (s43 w (by have:=hm.2.2.2.1;simp only at this;omega)) ?_)
 exact Zhd n es k hk ⟨0,c,w,s⟩ (by omega) rfl
theorem s12 (n:Int) (es:List Ep) (h:Vld n es) (k:Nat) (hk:k < es.length) (c:Int) (w:LL) (s:Int) (hm:Zcs ⟨0,c,w,s⟩) (hq:es[k].q.length < 8) (hv:es[k].v≠c) (hn:n < 1099511627776) :
  g12 n (es.map ec) es[k].o c w s=some (n+1,(es.set k { es[k] with q:=es[k].q++[⟨n+1,c,w,s⟩] }).map ec,n+1,0):=by
 refine ZU ?_
 have hn0:=h.n0
 have hadd:iop .add .i64 n 1=n+1:=ZfD (by omega) (by omega)
 rw [Zh0]
 refine Wj (Q:=fun r=>r=(n+1,(es.set k { es[k] with q:=es[k].q++[⟨n+1,c,w,s⟩] }).map ec,0)) ?_ fun r hr=>Zj (by rw [hr])
 rw [Zfp]
 have hlen:=h.len
 refine Za (s22 n es h) (Zb (fun h=>by cases h) fun _=>Za (s69 ⟨0,c,w,s⟩ hm) (Zb (fun h=>by cases h) fun _=>Za (s39 n es (by omega) h.ord) (Zd rfl ?_)))
 refine Zh (Yv (Zax hk h.ord) _) (Zb (fun h=>by cases h) fun _=>Zh (JT hk _) (Zb (fun h8=>?_) fun _=>Zb (fun _=>?_) fun h=>(h rfl).elim))
 ·simp only [CQ,ev,List.length_map] at h8;omega
 refine Zh (JT hk _) (Zb (fun hb=>?_) fun _=>Zb (fun _=>Zb (fun hb=>?_) fun _=>?_) fun h=>(h rfl).elim)
 ·simp only [CQ,ev] at hb;exact (hv hb).elim
 ·simp only [CQ] at hb;omega
 refine Za (s40 n es (by omega) h.few) (Zb (fun _=>Za (s43 w (by have:=hm.2.2.2.1;simp only at this;omega)) ?_) fun h=>(h rfl).elim)
 rw [show iop .add .i64 (n,es.map en).1 1=n+1 from hadd]
 exact Zhd (n+1) es k hk ⟨n+1,c,w,s⟩ (by omega) rfl
theorem Zrd (n:Int) (es:List Ep) (h:Vld n es) (k:Nat) (hk:k < es.length) (c:Int) (w:LL) (s:Int) (b:Bool) (hm:Zcs ⟨0,c,w,s⟩) (hq:es[k].q.length=8) :
  g42 n (es.map ec) es[k].o 0 c w s b=some (0,E0,65):=by
 refine ZU ?_
 rw [Zfp]
 have hlen:=h.len
 refine Za (s22 n es h) (Zb (fun h=>by cases h) fun _=>Za (s69 ⟨0,c,w,s⟩ hm) (Zb (fun h=>by cases h) fun _=>Za (s39 n es (by omega) h.ord) (Zd rfl ?_)))
 refine Zh (Yv (Zax hk h.ord) _) (Zb (fun h=>by cases h) fun _=>Zh (JT hk _) (Zb (fun _=>Zj rfl) fun h8=>?_))
 simp only [CQ,ev,List.length_map] at h8;omega
theorem Zr8 (n:Int) (es:List Ep) (h:Vld n es) (k:Nat) (hk:k < es.length) (c:Int) (w:LL) (s:Int) (hm:Zcs ⟨0,c,w,s⟩) (hq:es[k].q.length=8):g13 n (es.map ec) es[k].o c w s=some (0,E0,65):=by
 rw [Zkr,Zrd n es h k hk c w s false hm hq];rfl
theorem Zsa (n:Int) (es:List Ep) (h:Vld n es) (k:Nat) (hk:k < es.length) (c:Int) (w:LL) (s:Int) (hm:Zcs ⟨0,c,w,s⟩) (hq:es[k].q.length=8):g12 n (es.map ec) es[k].o c w s=some (0,E0,0,65):=by
 rw [Zh0,Zrd n es h k hk c w s true hm hq];rfl
def Vc (e:Ep) (m:Ms) (q:List Ms):Ep:=if 0 < m.t then { e with q:=q,s:=e.s++[m] } else { e with q:=q }
theorem s14 (n:Int) (es:List Ep) (h:Vld n es) (k:Nat) (hk:k < es.length) (m:Ms) (q:List Ms) (hq:es[k].q=m::q) :
  g14 n (es.map ec) es[k].o es[k].v=some (n,(es.set k (Vc es[k] m q)).map ec,m.t,m.c,m.w,m.s,0):=by
 refine ZU ?_
 have hlen:=h.len
 have hat:=ZnI hk
 have hlk:k < (es.map en).length:=by simpa using hk
 have hok:=h.ok _ (List.getElem_mem hk)
 have hmok:Zcs m:=hok.qm m (by rw [hq];simp)
 have r1:(0:Int)≤(k:Int):=Int.natCast_nonneg k
 have r2:(k:Int) < (List.length (es.map en):Int):=by omega
 rw [ZkB]
 refine Za (s22 n es h) (Zb (fun h=>by cases h) fun _=>Za (s39 n es (by omega) h.ord) (Zd rfl ?_))
 refine Zh (Yv (Zax hk h.ord) _) (Zb (fun h=>by cases h) fun _=>Zh (JT hk _) (Zb (fun h8=>?_) fun _=>Zh (JT hk _) (Zb (fun h8=>?_) fun _=>?_)))
 ·simp only [CQ,ev] at h8;exact (h8 rfl).elim
 ·simp only [CQ,ev,List.length_map,hq,List.length_cons] at h8;omega
 refine Za (s40 n es (by omega) h.few) ?_
 obtain ⟨R1,hR1⟩:∃ R:List AV,R = [I es[k].o,I es[k].v,.slice false 4 (es[k].q.map mc),.nest 4 true 41 (es[k].s.map mc)]:=⟨_,rfl⟩
 obtain ⟨R2,hR2⟩:∃ R:List AV,R = [I es[k].o,I es[k].v,.slice false 4 (q.map mc),.nest 4 true 41 (es[k].s.map mc)]:=⟨_,rfl⟩
 obtain ⟨R3,hR3⟩:∃ R:List AV,R = [I es[k].o,I es[k].v,.slice false 4 (q.map mc),.nest 4 false 41 []]:=⟨_,rfl⟩
 have hf1:Kz (es.map en) k 2 1=(es.map en).set k R1:=by rw [hR1];exact J5 hat
 have hf2:Kz ((es.map en).set k R1) k 2 1=(es.map en).set k R1:=ZhK (WU hlk) (by rw [hR1];rfl)
 have hel:∀ {γ:Type} (f:LL→Option γ),ZJ (Ziz ((es.map en).set k R1) 2 1) (k:Int) [.slice 4] f=f (es[k].q.map mc):=fun f=>J3 (sh:=[.slice 4]) f r1 (cs:=[.slice false 4 (es[k].q.map mc)]) (by
  rw [Int.toNat_natCast]
  unfold Ziz
  rw [List.getElem?_map,WU hlk,hR1]
  rfl) rfl
 have hse:Zw ((es.map en).set k R1) k 2 [AV.slice false 4 (q.map mc)]=(es.map en).set k R2:=by
  have hb:((es.map en).set k R1)[k]? = some R1:=WU hlk
  have:Zw ((es.map en).set k R1) k 2 [AV.slice false 4 (q.map mc)]=((es.map en).set k R1).set k (setCells R1 2 [AV.slice false 4 (q.map mc)]):=J5 hb
  rw [this,List.set_set,hR1,hR2]
  rfl
 have hdrop:List.drop (Int.toNat 1) (es[k].q.map mc)=q.map mc:=by rw [hq];rfl
 have hqm:es[k].q.map mc=mc m::q.map mc:=by rw [hq];rfl
 have hqop:qop (.nst 3 4 41) ((es.map en).set k R2) (k:Int)=true:=ZbY (WU hlk) (by rw [hR2];rfl)
 have hg3:Wg ((es.map en).set k R2) k 3=es[k].s.map mc:=by
  unfold Wg
  rw [WU hlk,hR2]
  rfl
 have hp3:Ye ((es.map en).set k R2) k 3 (AV.nest 4 false 41 E0)=(es.map en).set k R3:=by
  have:Ye ((es.map en).set k R2) k 3 (AV.nest 4 false 41 E0)=((es.map en).set k R2).set k (setCells R2 3 [AV.nest 4 false 41 E0]):=J5 (WU hlk)
  rw [this,List.set_set,hR2,hR3]
  rfl
 have hp4:Ye ((es.map en).set k R3) k 3 (AV.nest 4 true 41 ((es[k].s++[m]).map mc))=(es.map en).set k [I es[k].o,I es[k].v,.slice false 4 (q.map mc),.nest 4 true 41 ((es[k].s++[m]).map mc)]:=by
  have:Ye ((es.map en).set k R3) k 3 (AV.nest 4 true 41 ((es[k].s++[m]).map mc))=((es.map en).set k R3).set k (setCells R3 3 [AV.nest 4 true 41 ((es[k].s++[m]).map mc)]):=J5 (WU hlk)
  rw [this,List.set_set,hR3]
  rfl
 have hsm:es[k].s.map mc++(E0++[mc m])=(es[k].s++[m]).map mc:=by simp
 have r3:∀ R,(k:Int) < (((es.map en).set k R).length:Int):=fun R=>by rw [List.length_set];omega
 rw [Int.toNat_natCast,hf1,hf2]
 refine Zd r1 (Zd r2 (Zh (hel _) (Zh (J3 (sh:=[.int .i64,.int .i64,.slice 1,.int .i64]) (r:=mv m) (cs:=mc m) _ (by decide) (by rw [hqm];rfl) rfl) (Zh (hel _) (Zd (by decide) (Zd (by rw [hqm,List.length_cons];omega) (Zd r1 (Zd (r3 _) ?_))))))))
 rw [hdrop,hse]
 refine Zb (fun ht=>?_) fun ht=>?_
 ·simp only [CQ,mv] at ht
  refine Zd r1 (Zd hqop (Zd (Jb ?_ (by decide)) (Zd r1 (Zd ?_ (Za (s43 m.w (by have:=hmok.2.2.2.1;omega)) (Zj ?_))))))
  ·rw [hg3];have:=hok.sl;simp;omega
  ·rw [hp3];exact r3 _
  ·rw [hg3,hp3,show ([AV.val (.int .i64 (mv m).1),AV.val (.int .i64 (mv m).2.1),AV.slice false 1 (mv m).2.2.1,AV.val (.int .i64 (mv m).2.2.2)] : List AV)=mc m from rfl,hsm,hp4,Zeg es k (Vc es[k] m q) (by unfold Vc;rw [if_pos ht];rfl)]
   rfl
 ·simp only [CQ,mv] at ht
  refine Zj ?_
  rw [Zeg es k (Vc es[k] m q) (by unfold Vc;rw [if_neg (by omega),hR2];rfl)]
  rfl
end Go.Proofs.Ytigknndkmlhmfaa
end

section
namespace Go.Proofs.Ytigknndkmlhmfaa
open Go Go.AM
set_option linter.unusedSimpArgs false
set_option linter.unusedVariables false
set_option maxRecDepth 100000
theorem Yh (a b:List Ms):tk (a++b)=tk a++tk b:=by
 unfold tk;rw [List.map_append,List.filter_append]
theorem ZpJ {l:List Ms} {t:Int} (h:t∈tk l):∃ m∈l,m.t=t∧t≠0:=by
 unfold tk at h
 obtain ⟨h1,h2⟩:=List.mem_filter.1 h
 obtain ⟨m,hm,e⟩:=List.mem_map.1 h1
 exact ⟨m,hm,e,by simpa using h2⟩
theorem KI {α:Type} {l:List α} {k:Nat} (h:k < l.length):l=l.take k++l[k]::l.drop (k+1):=by
 rw [← List.drop_eq_getElem_cons h,List.take_append_drop]
theorem Zf1 {α:Type} {l:List α} {k:Nat} (h:k < l.length) (a:α):l.set k a=l.take k++a::l.drop (k+1):=List.set_eq_take_append_cons_drop ▸ by rw [if_pos h]
theorem Zeo {es:List Ep} {k:Nat} (hk:k < es.length) (e:Ep) {r:List Int} (hp:(tk (e.q++e.s)).Perm (tk (es[k].q++es[k].s)++r)):(tkE (es.set k e)).Perm (tkE es++r):=by
 rw [Zf1 hk]
 have h2:tkE es=tkE (es.take k)++(tk (es[k].q++es[k].s)++tkE (es.drop (k+1))):=by
  refine (congrArg tkE (KI hk)).trans ?_
  unfold tkE
  rw [List.flatMap_append,List.flatMap_cons]
 rw [h2]
 have h3:tkE (es.take k++e::es.drop (k+1))=tkE (es.take k)++(tk (e.q++e.s)++tkE (es.drop (k+1))):=by simp [tkE]
 rw [h3,List.append_assoc,List.append_assoc]
 refine List.Perm.append_left _ ?_
 refine (hp.append_right _).trans ?_
 rw [List.append_assoc]
 exact List.Perm.append_left _ List.perm_append_comm
theorem ZdD {n n':Int} {es:List Ep} (h:Vld n es) {k:Nat} (hk:k < es.length) {e:Ep} {r:List Int} (he:ZpY e) (ho:e.o=es[k].o) (h1:n≤n') (h2:n'≤1099511627776)
  (hp:(tk (e.q++e.s)).Perm (tk (es[k].q++es[k].s)++r)) (hr:∀ t∈r,n < t∧t≤n') (hnd:r.Nodup):Vld n' (es.set k e):=by
 have hn0:=h.n0
 have hperm:=Zeo hk e hp
 refine ⟨by omega,h2,by rw [List.length_set];exact h.len,fun x hx=>?_,?_,?_,fun t ht=>?_⟩
 ·rcases List.mem_or_eq_of_mem_set hx with hx | rfl
  ·exact h.ok x hx
  ·exact he
 ·have hm:(es.set k e).map Ep.o=es.map Ep.o:=by
   rw [List.map_set,ho]
   apply List.ext_getElem?
   intro j
   rw [List.getElem?_set]
   by_cases hj:k=j
   ·subst hj;simp [hk]
   ·simp [hj]
  have h3:=List.pairwise_map.2 h.ord
  rw [← hm] at h3
  exact List.pairwise_map.1 h3
 ·refine (List.Perm.nodup_iff hperm).2 (List.nodup_append.2 ⟨h.nd,hnd,fun a ha b hb hab=>?_⟩)
  have:=h.le a ha
  have:=(hr b hb).1
  omega
 ·rcases List.mem_append.1 (hperm.mem_iff.1 ht) with ht | ht
  ·have:=h.le t ht;omega
  ·exact (hr t ht).2
theorem Zmf {n:Int} {es:List Ep} (h:Vld n es) {k:Nat} (hk:k < es.length) {m:Ms} (hm:Zcs m) (h0:m.t=0) (hq:es[k].q.length < 8):Vld n (es.set k { es[k] with q:=es[k].q++[m] }):=by
 have hok:=h.ok _ (List.getElem_mem hk)
 refine ZdD (r:=[]) h hk ⟨hok.o0,hok.o1,hok.v0,hok.v1,by simp;omega,hok.sl,fun x hx=>?_,hok.sm⟩ rfl (Int.le_refl _) h.n1 ?_ (fun t ht=>by cases ht) List.nodup_nil
 ·rcases List.mem_append.1 hx with hx | hx
  ·exact hok.qm x hx
  ·rw [List.mem_singleton] at hx;subst hx;exact hm
 ·have:tk [m] = []:=by simp [tk,h0]
  simp only [Yh,this,List.append_nil]
  exact List.Perm.refl _
theorem ZmO {n:Int} {es:List Ep} (h:Vld n es) {k:Nat} (hk:k < es.length) {m:Ms} (hm:Zcs m) (h0:m.t=n+1) (hn:n < 1099511627776) (hq:es[k].q.length < 8):Vld (n+1) (es.set k { es[k] with q:=es[k].q++[m] }):=by
 have hok:=h.ok _ (List.getElem_mem hk)
 have hn0:=h.n0
 refine ZdD (r:=[n+1]) h hk ⟨hok.o0,hok.o1,hok.v0,hok.v1,by simp;omega,hok.sl,fun x hx=>?_,hok.sm⟩ rfl (by omega) (by omega) ?_ (fun t ht=>?_) (by simp)
 ·rcases List.mem_append.1 hx with hx | hx
  ·exact hok.qm x hx
  ·rw [List.mem_singleton] at hx;subst hx;exact hm
 ·have:tk [m] = [n+1]:=by simp [tk,h0];omega
  simp only [Yh,this,List.append_assoc]
  exact List.Perm.append_left _ List.perm_append_comm
 ·rw [List.mem_singleton] at ht;omega
theorem Zmv {n:Int} {es:List Ep} (h:Vld n es) {k:Nat} (hk:k < es.length) {m:Ms} {q:List Ms} (hq:es[k].q=m::q) (hs:es[k].s.length < 400):Vld n (es.set k (Vc es[k] m q)):=by
 have hok:=h.ok _ (List.getElem_mem hk)
 have hql:=hok.ql
 rw [hq] at hql
 have hm:Zcs m:=hok.qm m (by rw [hq];simp)
 have hqm:∀ x∈q,Zcs x:=fun x hx=>hok.qm x (by rw [hq];simp [hx])
 have h0:=hm.1
 unfold Vc
 split
 ·rename_i ht
  refine ZdD (r:=[]) h hk ⟨hok.o0,hok.o1,hok.v0,hok.v1,by simp at hql ⊢; omega,by simp;omega,hqm,fun x hx=>?_⟩ rfl (Int.le_refl _) h.n1 ?_ (fun t ht=>by cases ht) List.nodup_nil
  ·rcases List.mem_append.1 hx with hx | hx
   ·exact hok.sm x hx
   ·rw [List.mem_singleton] at hx;subst hx;exact ⟨hm,by omega⟩
  ·rw [hq]
   have:tk (m::q)=tk [m]++tk q:=Yh [m] q
   simp only [Yh,this,List.append_nil]
   rw [List.append_assoc,← List.append_assoc]
   exact List.perm_append_comm
 ·rename_i ht
  refine ZdD (r:=[]) h hk ⟨hok.o0,hok.o1,hok.v0,hok.v1,by simp at hql ⊢; omega,hok.sl,hqm,hok.sm⟩ rfl (Int.le_refl _) h.n1 ?_ (fun t ht=>by cases ht) List.nodup_nil
  rw [hq]
  have h2:tk [m] = []:=by
   have:m.t=0:=by omega
   simp [tk,this]
  have:tk (m::q)=tk [m]++tk q:=Yh [m] q
  simp only [Yh,this,h2,List.append_nil,List.nil_append]
  exact List.Perm.refl _
theorem ZnT:Vld 0 []:=⟨by decide,by decide,by decide,(fun e he=>by cases he),List.Pairwise.nil,List.nodup_nil,(fun t ht=>by cases ht)⟩
end Go.Proofs.Ytigknndkmlhmfaa
end

section
namespace Go.Proofs.Ytigknndkmlhmfaa
open Go Go.AM
set_option linter.unusedVariables false
set_option maxRecDepth 100000
noncomputable def F16:Fn:=⟨50,[4],[(5,[(1,.c (.int .i64)),(5,.c (.own true 3)),(14,.c (.slice 4)),(15,.c (.int .i64)),(16,.c (.int .i64))]),(8,[(1,.c (.int .i64)),(5,.c (.own true 3)),(14,.c (.slice 4)),(15,.c (.int .i64)),(16,.c (.int .i64)),(25,.c (.own true 41)),(26,.c (.int .i64)),(27,.c (.int .i64))])],[],0,[4,5,24,44],[(15,[(5,0)])],Try.f16,[.agg [.int .i64,.slice 4],.c (.int .i64)],[.c (.slice 1)],[(22,F22.S),(44,F44.S)]⟩
theorem ZrT:F16.S.Ok Try.prog 16:=F16.ok Try.func16 (by kernel_rfl) ⟨Zng,⟨Zq2,trivial⟩⟩
noncomputable def g16 (x0:Int) (x1:LL) (x2:Int):Option (LL):=F16.S.g [.i x0,.l x1,.i x2]
noncomputable def Zim (rec0:List V→Option (LL)) (k:Nat) (x0:Int) (x1:LL) (x2:LL) (x3:Int) (x4:Int) (x5:LL) (x6:Int) (x7:Int):Option (LL):=F16.lp [0,1,2,3] 1 (Zlo r0 0 rec0) k [.i x0,.l x1,.l x2,.i x3,.i x4,.l x5,.i x6,.i x7]
theorem ZmB (rec0:List V→Option (LL)) (k:Nat) (x0:Int) (x1:LL) (x2:LL) (x3:Int) (x4:Int) (x5:LL) (x6:Int) (x7:Int):Zim rec0 (k+1) x0 x1 x2 x3 x4 x5 x6 x7 =
 (if (cop .lss x7 x6)=true then
 Zv ((0:Int)≤x7)<|
 Zv ((x7:Int) < (List.length x5:Int))<|
 ZJ x5 x7 [.int .i64,.int .i64,.slice 1,.int .i64] fun (r8:Int×Int×LL×Int)=>
 if (cop .eql r8.2.1 x0)=true then
 if (cop .gtr r8.1 0)=true then
 Zv (Jw x1 (E0++[[AV.val (.int .i64 r8.1)]]) 8)<|
 Zim rec0 k x0 (x1++(E0++[[AV.val (.int .i64 r8.1)]])) x2 x3 x4 x5 x6 (iop .add .i64 x7 1)
 else
 Zim rec0 k x0 x1 x2 x3 x4 x5 x6 (iop .add .i64 x7 1)
 else
 Zim rec0 k x0 x1 x2 x3 x4 x5 x6 (iop .add .i64 x7 1)
 else
 rec0 [.i x0,.l x1,.l x2,.i x3,.i (iop .add .i64 x4 1)]):=by kernel_rfl
noncomputable def Zn0 (k:Nat) (x0:Int) (x1:LL) (x2:LL) (x3:Int) (x4:Int):Option (LL):=F16.lp [0,1,0] 0 r0 k [.i x0,.l x1,.l x2,.i x3,.i x4]
theorem Zm1 (k:Nat) (x0:Int) (x1:LL) (x2:LL) (x3:Int) (x4:Int):Zn0 (k+1) x0 x1 x2 x3 x4 =
 (if (cop .lss x4 x3)=true then
 ZJ x2 x4 [.int .i64,.int .i64,.slice 4,.slice 4] fun (r5:Int×Int×LL×LL)=>
 (g44 ((E0++[[AV.slice false 4 r5.2.2.1]])++[[AV.slice false 4 r5.2.2.2]])).bind fun (r9:LL)=>
 Zim (F16.lp [0,1,0] 0 r0 k) YS x0 x1 x2 x3 x4 r9 (List.length r9:Int) 0
 else
 Zv (qop .ints x1 0=true)<|
 some ((Zem x1))):=by kernel_rfl
theorem ZpX (x0:Int) (x1:LL) (x2:Int):g16 x0 x1 x2 =
 ((g22 x0 x1).bind fun (r3:Bool)=>
 if (!r3)=true then
 some (E0)
 else
 Zn0 YS x2 E0 x1 (List.length x1:Int) 0):=by kernel_rfl
end Go.Proofs.Ytigknndkmlhmfaa
end

section
namespace Go.Proofs.Ytigknndkmlhmfaa
open Go Go.AM
set_option linter.unusedVariables false
set_option maxRecDepth 100000
noncomputable def F54:Fn:=⟨30,[2],[(3,[(3,.c (.own false 50)),(11,.c (.own true 41)),(12,.c (.int .i64)),(13,.c (.int .i64))])],[],0,[],[],Try.f54,[.agg [.int .i64,.int .i64,.slice 4,.slice 4]],[.c (.own false 50)],[(44,F44.S)]⟩
theorem Zrm:F54.S.Ok Try.prog 54:=F54.ok Try.func54 (by kernel_rfl) ⟨Zq2,trivial⟩
noncomputable def g54 (x0:Int) (x1:Int) (x2:LL) (x3:LL):Option (LL):=F54.S.g [.i x0,.i x1,.l x2,.l x3]
noncomputable def ZjX (k:Nat) (x0:LL) (x1:LL) (x2:Int) (x3:Int):Option (LL):=F54.lp [2] 0 r0 k [.l x0,.l x1,.i x2,.i x3]
theorem Zmq (k:Nat) (x0:LL) (x1:LL) (x2:Int) (x3:Int):ZjX (k+1) x0 x1 x2 x3 =
 (if (cop .lss x3 x2)=true then
 Zv ((0:Int)≤x3)<|
 Zv ((x3:Int) < (List.length x1:Int))<|
 ZJ x1 x3 [.int .i64,.int .i64,.slice 1,.int .i64] fun (r4:Int×Int×LL×Int)=>
 if (cop .gtr r4.1 0)=true then
 Zv (Jw x0 (E0++[[AV.val (.int .i64 r4.1),AV.val (.int .i64 r4.2.1),AV.val (.int .i64 16),AV.slice false 1 E0]]) 48)<|
 ZjX k (x0++(E0++[[AV.val (.int .i64 r4.1),AV.val (.int .i64 r4.2.1),AV.val (.int .i64 16),AV.slice false 1 E0]])) x1 x2 (iop .add .i64 x3 1)
 else
 ZjX k x0 x1 x2 (iop .add .i64 x3 1)
 else
 some (x0)):=by kernel_rfl
theorem ZpS (x0:Int) (x1:Int) (x2:LL) (x3:LL):g54 x0 x1 x2 x3 =
 ((g44 ((E0++[[AV.slice false 4 x3]])++[[AV.slice false 4 x2]])).bind fun (r4:LL)=>
 ZjX YS E0 r4 (List.length r4:Int) 0):=by kernel_rfl
noncomputable def F55.S:Fun:=Zq8 false 80
theorem ZrC:F55.S.Ok Try.prog 55:=delF_ok (T:=26) (B:=4) (I:=3) (U:=0) (e:=80) (bytes:=64) mixed (by kernel_rfl) Try.func55 (by kernel_rfl) ⟨by kernel_rfl,by kernel_rfl,by kernel_rfl⟩
noncomputable def g55 (x0:LL) (x1 x2:Int):Option LL:=F55.S.g [.l x0,.i x1,.i x2]
theorem Zpw (x0:LL) (x1 x2:Int):g55 x0 x1 x2=ZpQ x0 x1 x2:=rfl
noncomputable def F24:Fn:=⟨42,[4,5,6],[],[],0,[],[(7,[(9,2)])],Try.f24,[.agg [.int .i64,.slice 4],.c (.int .i64)],[.agg [.int .i64,.slice 4],.c (.own false 50),.c (.int .i64)],[(22,F22.S),(39,F39.S),(40,F40.S),(54,F54.S),(55,F55.S)]⟩
theorem ZrB:F24.S.Ok Try.prog 24:=F24.ok Try.func24 (by kernel_rfl) ⟨Zng,⟨Zqx,⟨Zo3,⟨Zrm,⟨ZrC,trivial⟩⟩⟩⟩⟩
noncomputable def g24 (x0:Int) (x1:LL) (x2:Int):Option (Int×LL×LL×Int):=F24.S.g [.i x0,.l x1,.i x2]
theorem Znp (x0:Int) (x1:LL) (x2:Int):g24 x0 x1 x2 =
 ((g22 x0 x1).bind fun (r3:Bool)=>
 if (!r3)=true then
 some (0,E0,E0,74)
 else
 (g39 x0 x1).bind fun (r4:LL)=>
 Zv (qop .mapv r4 0=true)<|
 ZJ (Zbx r4 x2 [AV.val (.int .i64 0)]) 0 [.int .i64,.bool] fun (r5:Int×Bool)=>
 if (!r5.2)=true then
 some (0,E0,E0,17)
 else
 (g40 x0 x1).bind fun (r7:Int×LL)=>
 Zv ((0:Int)≤r5.1)<|
 Zv ((r5.1:Int) < (List.length (Wh r7.2):Int))<|
 ZJ (Wh r7.2) r5.1 [.int .i64,.int .i64,.slice 4,.slice 4] fun (r9:Int×Int×LL×LL)=>
 (g54 r9.1 r9.2.1 r9.2.2.1 r9.2.2.2).bind fun (r13:LL)=>
 (g55 (Wh r7.2) r5.1 (iop .add .i64 r5.1 1)).bind fun (r14:LL)=>
 some (r7.1,r14,r13,0)):=by kernel_rfl
noncomputable def F58:Fn:=⟨8,[3],[],[1],0,[],[],Try.f58,[.agg [.int .i64,.int .i64,.slice 1,.int .i64],.box [.int .i64]],[.c (.bool)],[]⟩
theorem Zrp:F58.S.Ok Try.prog 58:=F58.ok Try.func58 (by kernel_rfl) trivial
noncomputable def g58 (x0:Int) (x1:Int) (x2:LL) (x3:Int) (x4:Int):Option (Bool×Int):=F58.S.g [.i x0,.i x1,.l x2,.i x3,.i x4]
theorem Znw (x0:Int) (x1:Int) (x2:LL) (x3:Int) (x4:Int):g58 x0 x1 x2 x3 x4 =
 (some ((cop .eql x1 x4),x4)):=by kernel_rfl
noncomputable def ZfX:Fn:=⟨19,[4],[(2,[(0,.c (.slice 4)),(1,.clo 58 [19]),(7,.c (.int .i64)),(8,.c (.int .i64)),(19,.gbox [.int .i64])])],[],1,[],[],Try.f46,[.c (.slice 4),.clo 58 [19],.dead,.dead,.dead,.dead,.dead,.dead,.dead,.dead,.dead,.dead,.dead,.dead,.dead,.dead,.dead,.dead,.dead,.gbox [.int .i64]],[.c (.int .i64)],[(58,F58.S)]⟩
theorem Zn5:ZfX.S.Ok Try.prog 46:=ZfX.ok Try.func46 (by kernel_rfl) ⟨Zrp,trivial⟩
noncomputable def Zk6 (x0:LL) (x1:Int):Option (Int×Int):=ZfX.S.g [.l x0,.i x1]
noncomputable def ZaT (k:Nat) (x0:LL) (x1:Int) (x2:Int) (x3:Int):Option (Int×Int):=ZfX.lp [0] 0 r0 k [.l x0,.i x1,.i x2,.i x3]
theorem Zge (k:Nat) (x0:LL) (x1:Int) (x2:Int) (x3:Int):ZaT (k+1) x0 x1 x2 x3 =
 (if (cop .lss x2 x1)=true then
 ZJ x0 x2 [.int .i64,.int .i64,.slice 1,.int .i64] fun (r4:Int×Int×LL×Int)=>
 (g58 r4.1 r4.2.1 r4.2.2.1 r4.2.2.2 x3).bind fun (r8:Bool×Int)=>
 if r8.1=true then
 some (x2,r8.2)
 else
 ZaT k x0 x1 (iop .add .i64 x2 1) r8.2
 else
 some ((-1),x3)):=by kernel_rfl
theorem ZkA (x0:LL) (x1:Int):Zk6 x0 x1 =
 (ZaT YS x0 (List.length x0:Int) 0 x1):=by kernel_rfl
noncomputable def Ze0:Fn:=⟨42,[4],[(5,[(0,.c (.own true 41)),(1,.clo 58 [42]),(5,.c (.int .i64)),(6,.c (.int .i64)),(42,.gbox [.int .i64])])],[],1,[4],[],Try.f59,[.c (.own true 41),.clo 58 [42],.dead,.dead,.dead,.dead,.dead,.dead,.dead,.dead,.dead,.dead,.dead,.dead,.dead,.dead,.dead,.dead,.dead,.dead,.dead,.dead,.dead,.dead,.dead,.dead,.dead,.dead,.dead,.dead,.dead,.dead,.dead,.dead,.dead,.dead,.dead,.dead,.dead,.dead,.dead,.dead,.gbox [.int .i64]],[.c (.own true 41)],[(46,ZfX.S),(58,F58.S)]⟩
theorem Zoc:Ze0.S.Ok Try.prog 59:=Ze0.ok Try.func59 (by kernel_rfl) ⟨Zn5,⟨Zrp,trivial⟩⟩
noncomputable def Zhi (x0:LL) (x1:Int):Option (LL×Int):=Ze0.S.g [.l x0,.i x1]
noncomputable def Wu (k:Nat) (x0:LL) (x1:Int) (x2:Int) (x3:Int):Option (LL×Int):=Ze0.lp [0,1,0] 0 r0 k [.l x0,.i x1,.i x2,.i x3]
theorem Zbi (k:Nat) (x0:LL) (x1:Int) (x2:Int) (x3:Int):Wu (k+1) x0 x1 x2 x3 =
 (if (cop .lss x2 (List.length x0:Int))=true then
 Zv ((0:Int)≤x2)<|
 Zv ((x2:Int) < (List.length x0:Int))<|
 ZJ x0 x2 [.int .i64,.int .i64,.slice 1,.int .i64] fun (r4:Int×Int×LL×Int)=>
 (g58 r4.1 r4.2.1 r4.2.2.1 r4.2.2.2 x3).bind fun (r8:Bool×Int)=>
 if (!r8.1)=true then
 Zv ((0:Int)≤x1)<|
 Zv ((x1:Int) < (List.length x0:Int))<|
 Zv ((0:Int)≤x1)<|
 Zv ((x1:Int) < (List.length x0:Int))<|
 Wu k (Zw x0 (Int.toNat x1) 0 [AV.val (.int .i64 r4.1),AV.val (.int .i64 r4.2.1),AV.slice false 1 r4.2.2.1,AV.val (.int .i64 r4.2.2.2)]) (iop .add .i64 x1 1) (iop .add .i64 x2 1) r8.2
 else
 Wu k x0 x1 (iop .add .i64 x2 1) r8.2
 else
 Zv ((0:Int)≤x1)<|
 Zv ((x1:Int)≤(List.length x0:Int))<|
 Zv ((0:Int)≤x1)<|
 Zv ((x1:Int)≤(List.length ((List.take (Int.toNat x1) x0)++(List.replicate (Int.toNat (iop .sub .i64 (List.length x0:Int) x1)) [AV.val (.int .i64 0),AV.val (.int .i64 0),AV.slice false 1 E0,AV.val (.int .i64 0)])):Int))<|
 some ((List.take (Int.toNat x1) ((List.take (Int.toNat x1) x0)++(List.replicate (Int.toNat (iop .sub .i64 (List.length x0:Int) x1)) [AV.val (.int .i64 0),AV.val (.int .i64 0),AV.slice false 1 E0,AV.val (.int .i64 0)]))),x3)):=by kernel_rfl
theorem Zi9 (x0:LL) (x1:Int):Zhi x0 x1 =
 ((Zk6 x0 x1).bind fun (r2:Int×Int)=>
 if (cop .eql r2.1 (-1))=true then
 some (x0,r2.2)
 else
 Wu YS x0 r2.1 (iop .add .i64 r2.1 1) r2.2):=by kernel_rfl
noncomputable def F32:Fn:=⟨60,[4,5,6],[(11,[(8,.box [.int .i64,.own true 2097232]),(3,.box [.int .i64]),(4,.box [.int .i64,.slice 4]),(7,.clo 58 [3]),(9,.box [.int .i64,.own false 80]),(10,.c (.own false 50)),(27,.mref 8 2),(28,.c (.int .i64)),(29,.c (.int .i64))])],[],0,[24,32],[(16,[(12,3),(12,4)]),(17,[(12,3),(12,4)])],Try.f32,[.agg [.int .i64,.slice 4],.c (.int .i64)],[.agg [.int .i64,.slice 4],.c (.own false 50),.c (.int .i64)],[(22,F22.S),(38,F38.S),(40,F40.S),(59,Ze0.S),(54,F54.S)]⟩
theorem Zse:F32.S.Ok Try.prog 32:=F32.ok Try.func32 (by kernel_rfl) ⟨Zng,⟨Zqv,⟨Zo3,⟨Zoc,⟨Zrm,trivial⟩⟩⟩⟩⟩
noncomputable def g32 (x0:Int) (x1:LL) (x2:Int):Option (Int×LL×LL×Int):=F32.S.g [.i x0,.l x1,.i x2]
noncomputable def Zjq (k:Nat) (x0:Int) (x1:LL) (x2:Int) (x3:Int) (x4:LL) (x5:Int) (x6:LL) (x7:LL) (x8:Int) (x9:Int):Option (Int×LL×LL×Int):=F32.lp [0,1,0,1,2] 0 r0 k [.i x0,.l x1,.i x2,.i x3,.l x4,.i x5,.l x6,.l x7,.i x8,.i x9]
theorem Zlu (k:Nat) (x0:Int) (x1:LL) (x2:Int) (x3:Int) (x4:LL) (x5:Int) (x6:LL) (x7:LL) (x8:Int) (x9:Int):Zjq (k+1) x0 x1 x2 x3 x4 x5 x6 x7 x8 x9 =
 (if (cop .lss x9 x8)=true then
 Zv ((0:Int)≤x9)<|
 Zv ((x9:Int) < (List.length x1:Int))<|
 Zv (qop (.nst 2 4 41) x1 x9=true)<|
 Zv (qop (.nst 3 4 41) x1 x9=true)<|
 ZJ (Ziz (Kz x1 (Int.toNat x9) 0 4) 0 4) x9 [.int .i64,.int .i64,.slice 4,.slice 4] fun (r10:Int×Int×LL×LL)=>
 (Zhi r10.2.2.1 x2).bind fun (r14:LL×Int)=>
 (Zhi r10.2.2.2 r14.2).bind fun (r16:LL×Int)=>
 if (cop .eql r10.2.1 r16.2)=true then
 (g54 r10.1 r10.2.1 r14.1 r16.1).bind fun (r18:LL)=>
 Zv (Jw x7 r18 48)<|
 Zjq k x0 (Zm7 x1 (Int.toNat x9)) r16.2 x3 x4 x5 x6 (x7++r18) x8 (iop .add .i64 x9 1)
 else
 Zv (Jw x6 (E0++[[AV.val (.int .i64 r10.1),AV.val (.int .i64 r10.2.1),AV.slice false 4 r14.1,AV.slice false 4 r16.1]]) 64)<|
 Zjq k x0 (Zm7 x1 (Int.toNat x9)) r16.2 x3 x4 x5 (x6++(E0++[[AV.val (.int .i64 r10.1),AV.val (.int .i64 r10.2.1),AV.slice false 4 r14.1,AV.slice false 4 r16.1]])) x7 x8 (iop .add .i64 x9 1)
 else
 some (x5,x6,x7,0)):=by kernel_rfl
theorem Zqm (x0:Int) (x1:LL) (x2:Int):g32 x0 x1 x2 =
 ((g22 x0 x1).bind fun (r3:Bool)=>
 if (!r3)=true then
 some (0,E0,E0,74)
 else
 (g38 x2).bind fun (r4:Bool)=>
 if (!r4)=true then
 some (0,E0,E0,1)
 else
 (g40 x0 x1).bind fun (r5:Int×LL)=>
 Zjq YS r5.1 r5.2 x2 0 E0 r5.1 E0 E0 (List.length r5.2:Int) 0):=by kernel_rfl
end Go.Proofs.Ytigknndkmlhmfaa
end

section
namespace Go.Proofs.Ytigknndkmlhmfaa
open Go Go.AM
set_option linter.unusedVariables false
set_option maxRecDepth 100000
noncomputable def F50:Fn:=⟨9,[2],[],[],0,[],[],Try.f50,[.c (.int .i64)],[.c (.bool)],[]⟩
theorem Zrt:F50.S.Ok Try.prog 50:=F50.ok Try.func50 (by kernel_rfl) trivial
noncomputable def g50 (x0:Int):Option (Bool):=F50.S.g [.i x0]
theorem ZpD (x0:Int):g50 x0 =
 (if (cop .geq x0 0)=true then
 some ((cop .lss x0 32))
 else
 some (false)):=by kernel_rfl
noncomputable def F53:Fn:=⟨27,[2],[],[],0,[],[],Try.f53,[.agg [.int .i64,.int .i64,.slice 1,.int .i64]],[.c (.bool)],[(50,F50.S)]⟩
theorem ZrG:F53.S.Ok Try.prog 53:=F53.ok Try.func53 (by kernel_rfl) ⟨Zrt,trivial⟩
noncomputable def g53 (x0:Int) (x1:Int) (x2:LL) (x3:Int):Option (Bool):=F53.S.g [.i x0,.i x1,.l x2,.i x3]
theorem ZpU (x0:Int) (x1:Int) (x2:LL) (x3:Int):g53 x0 x1 x2 x3 =
 (if (cop .geq x0 0)=true then
 (g50 x1).bind fun (r4:Bool)=>
 if r4=true then
 if (cop .leq (List.length x2:Int) 8)=true then
 if (cop .geq x3 (-1))=true then
 some ((cop .lss x3 64))
 else
 some (false)
 else
 some (false)
 else
 some (false)
 else
 some (false)):=by kernel_rfl
noncomputable def F23:Fn:=⟨139,[2],[(5,[(1,.box [.int .i64,.slice 4]),(3,.c (.own false 3)),(4,.c (.int .i64))]),(12,[(1,.box [.int .i64,.slice 4]),(3,.c (.own false 3)),(4,.c (.int .i64)),(5,.box [.int .i64,.int .i64,.slice 4,.slice 4]),(6,.c (.slice 4)),(7,.c (.int .i64))]),(20,[(3,.c (.own false 3)),(9,.c (.int .i64))]),(23,[(3,.c (.own false 3)),(9,.c (.int .i64)),(10,.c (.int .i64))])],[],0,[],[],Try.f23,[.agg [.int .i64,.slice 4]],[.c (.bool)],[(50,F50.S),(53,F53.S)]⟩
theorem ZrR:F23.S.Ok Try.prog 23:=F23.ok Try.func23 (by kernel_rfl) ⟨Zrt,⟨ZrG,trivial⟩⟩
noncomputable def g23 (x0:Int) (x1:LL):Option (Bool):=F23.S.g [.i x0,.l x1]
noncomputable def Zck (rec0:List V→Option (Bool)) (k:Nat) (x0:Int) (x1:LL) (x2:LL) (x3:Int) (x4:Int) (x5:Int) (x6:LL) (x7:LL) (x8:LL) (x9:Int):Option (Bool):=F23.lp [1,1,1,2,0,1,1,0,0,1,0,1,1,3] 1 (Zlo r0 0 rec0) k [.i x0,.l x1,.l x2,.i x3,.i x4,.i x5,.l x6,.l x7,.l x8,.i x9]
theorem ZlZ (rec0:List V→Option (Bool)) (k:Nat) (x0:Int) (x1:LL) (x2:LL) (x3:Int) (x4:Int) (x5:Int) (x6:LL) (x7:LL) (x8:LL) (x9:Int):Zck rec0 (k+1) x0 x1 x2 x3 x4 x5 x6 x7 x8 x9 =
 (if (cop .lss x9 (List.length x8:Int))=true then
 ZJ x8 x9 [.int .i64,.int .i64,.slice 1,.int .i64] fun (r10:Int×Int×LL×Int)=>
 (g53 r10.1 r10.2.1 r10.2.2.1 r10.2.2.2).bind fun (r14:Bool)=>
 if (!r14)=true then
 some (false)
 else
 if (cop .gtr r10.1 x0)=true then
 some (false)
 else
 if (cop .lss x9 (List.length x7:Int))=true then
 if (cop .eql r10.1 0)=true then
 some (false)
 else
 if (cop .gtr r10.1 0)=true then
 Zv (Jw x2 (E0++[[AV.val (.int .i64 r10.1)]]) 8)<|
 Zck rec0 k x0 x1 (x2++(E0++[[AV.val (.int .i64 r10.1)]])) x3 x4 x5 x6 x7 x8 (iop .add .i64 x9 1)
 else
 Zck rec0 k x0 x1 x2 x3 x4 x5 x6 x7 x8 (iop .add .i64 x9 1)
 else
 if (cop .gtr r10.1 0)=true then
 Zv (Jw x2 (E0++[[AV.val (.int .i64 r10.1)]]) 8)<|
 Zck rec0 k x0 x1 (x2++(E0++[[AV.val (.int .i64 r10.1)]])) x3 x4 x5 x6 x7 x8 (iop .add .i64 x9 1)
 else
 Zck rec0 k x0 x1 x2 x3 x4 x5 x6 x7 x8 (iop .add .i64 x9 1)
 else
 rec0 [.i x0,.l x1,.l x2,.i (iop .add .i64 x3 1)]):=by kernel_rfl
noncomputable def ZlT (rec0:List V→Option (Bool)) (k:Nat) (x0:LL) (x1:Int) (x2:Int):Option (Bool):=F23.lp [1,1,1,0,1,2,0] 1 (Zlo r0 0 rec0) k [.l x0,.i x1,.i x2]
theorem Zhe (rec0:List V→Option (Bool)) (k:Nat) (x0:LL) (x1:Int) (x2:Int):ZlT rec0 (k+1) x0 x1 x2 =
 (if (cop .lss x2 x1)=true then
 ZJ x0 x1 [.int .i64] fun (r3:Int)=>
 ZJ x0 x2 [.int .i64] fun (r4:Int)=>
 if (cop .eql r3 r4)=true then
 some (false)
 else
 ZlT rec0 k x0 x1 (iop .add .i64 x2 1)
 else
 rec0 [.l x0,.i (iop .add .i64 x1 1)]):=by kernel_rfl
noncomputable def ZmT (k:Nat) (x0:LL) (x1:Int):Option (Bool):=F23.lp [1,1,1,0,1,0] 0 r0 k [.l x0,.i x1]
theorem ZhF (k:Nat) (x0:LL) (x1:Int):ZmT (k+1) x0 x1 =
 (if (cop .lss x1 (List.length x0:Int))=true then
 ZlT (F23.lp [1,1,1,0,1,0] 0 r0 k) YS x0 x1 0
 else
 some (true)):=by kernel_rfl
noncomputable def Zn1 (k:Nat) (x0:Int) (x1:LL) (x2:LL) (x3:Int):Option (Bool):=F23.lp [1,1,1,0] 0 r0 k [.i x0,.l x1,.l x2,.i x3]
theorem Zl1 (k:Nat) (x0:Int) (x1:LL) (x2:LL) (x3:Int):Zn1 (k+1) x0 x1 x2 x3 =
 (if (cop .lss x3 (List.length x1:Int))=true then
 ZJ x1 x3 [.int .i64,.int .i64,.slice 4,.slice 4] fun (r4:Int×Int×LL×LL)=>
 if (cop .lss r4.1 0)=true then
 some (false)
 else
 if (cop .geq r4.1 1099511627776)=true then
 some (false)
 else
 if (cop .gtr x3 0)=true then
 ZJ x1 (iop .sub .i64 x3 1) [.int .i64,.int .i64,.slice 4,.slice 4] fun (r8:Int×Int×LL×LL)=>
 if (cop .leq r4.1 r8.1)=true then
 some (false)
 else
 (g50 r4.2.1).bind fun (r12:Bool)=>
 if (!r12)=true then
 some (false)
 else
 if (cop .gtr (List.length r4.2.2.1:Int) 8)=true then
 some (false)
 else
 Zv (Jw E0 r4.2.2.2 48)<|
 Zv (Jw r4.2.2.2 r4.2.2.1 48)<|
 Zck (F23.lp [1,1,1,0] 0 r0 k) YS x0 x1 x2 x3 r4.1 r4.2.1 r4.2.2.1 r4.2.2.2 (r4.2.2.2++r4.2.2.1) 0
 else
 (g50 r4.2.1).bind fun (r8:Bool)=>
 if (!r8)=true then
 some (false)
 else
 if (cop .gtr (List.length r4.2.2.1:Int) 8)=true then
 some (false)
 else
 Zv (Jw E0 r4.2.2.2 48)<|
 Zv (Jw r4.2.2.2 r4.2.2.1 48)<|
 Zck (F23.lp [1,1,1,0] 0 r0 k) YS x0 x1 x2 x3 r4.1 r4.2.1 r4.2.2.1 r4.2.2.2 (r4.2.2.2++r4.2.2.1) 0
 else
 ZmT YS x2 0):=by kernel_rfl
theorem Zpe (x0:Int) (x1:LL):g23 x0 x1 =
 (if (cop .lss x0 0)=true then
 some (false)
 else
 if (cop .gtr x0 1099511627776)=true then
 some (false)
 else
 if (cop .gtr (List.length x1:Int) 32)=true then
 some (false)
 else
 Zn1 YS x0 x1 E0 0):=by kernel_rfl
end Go.Proofs.Ytigknndkmlhmfaa
end

section
namespace Go.Proofs.Ytigknndkmlhmfaa
open Go Go.AM
set_option linter.unusedSimpArgs false
set_option linter.unusedVariables false
set_option maxRecDepth 100000
theorem Zf0 {i:Nat} (h:i < 100000):iop .add .i64 (i:Int) 1=((i+1:Nat):Int):=by
 rw [ZfD (by omega) (by omega)];omega
def oc (p:Int×Int):List AV:=[I p.1,I p.2,I 16,.slice false 1 E0]
def outs (l:List Ms):List (Int×Int):=(l.filter fun m=>decide (0 < m.t)).map fun m=>(m.t,m.c)
theorem ZfF {l:List Ms} {j:Nat} (h:j < l.length):outs (l.take (j+1))=if 0 < l[j].t then outs (l.take j)++[(l[j].t,l[j].c)] else outs (l.take j):=by
 unfold outs
 rw [List.take_succ_eq_append_getElem h,List.filter_append,List.map_append]
 by_cases h0:0 < l[j].t
 ·rw [if_pos h0];simp [h0]
 ·rw [if_neg h0];simp [h0]
theorem Zd8 (l:List Ms):(outs l).length≤l.length:=by
 unfold outs
 rw [List.length_map]
 exact List.length_filter_le _ _
theorem ZdX {a b:LL} {k:Nat} (h:a.length+b.length≤100000) (hk:k≤10000):Jw a b k:=by
 unfold Jw Ja
 have:(a.length+b.length)*(k+1)≤100000*10001:=Nat.mul_le_mul h (by omega)
 omega
theorem s54 (o v:Int) (q s:List Ms) (hq:q.length≤400) (hs:s.length≤400):g54 o v (q.map mc) (s.map mc)=some ((outs (s++q)).map oc):=by
 refine ZU ?_
 rw [ZpS]
 refine Za (s44 s q hs hq) ?_
 obtain ⟨l,hl⟩:∃ l,l=s++q:=⟨_,rfl⟩
 have hll:l.length≤800:=by rw [hl,List.length_append];omega
 rw [← hl,List.length_map]
 refine ZK (F:=fun k (x:LL) i=>ZjX k x (l.map mc) (l.length:Int) i) l.length (fun i x=>x=(outs (l.take i)).map oc) (by omega) (fun k i x hi hx next=>?_) E0 (by simp [outs])
 subst hx
 refine Zh (Zmq ..) (Zb (fun hh=>?_) fun hh=>?_)
 ·simp only [CQ] at hh
  have hi':i < l.length:=by omega
  have hlen:=Zd8 (l.take i)
  rw [List.length_take] at hlen
  refine Zd (by omega) (Zd (by rw [List.length_map];omega) (Zh (K9 hi' _) (Zb (fun ht=>?_) fun ht=>?_)))
  ·simp only [CQ,mv] at ht
   refine Zd (Jb (by simp;omega) (by decide)) ?_
   rw [JO hi (by omega)]
   refine next hi' _ ?_
   rw [ZfF hi',if_pos ht,List.map_append]
   rfl
  ·simp only [CQ,mv] at ht
   rw [JO hi (by omega)]
   exact next hi' _ (by rw [ZfF hi',if_neg (by omega)])
 ·simp only [CQ] at hh
  have:i=l.length:=by omega
  subst this
  rw [List.take_length]
  exact Zj rfl
theorem s24 (n:Int) (es:List Ep) (h:Vld n es) (k:Nat) (hk:k < es.length):g24 n (es.map ec) es[k].o=some (n,(es.take k++es.drop (k+1)).map ec,(outs (es[k].s++es[k].q)).map oc,0):=by
 refine ZU ?_
 have hlen:=h.len
 have hok:=h.ok _ (List.getElem_mem hk)
 rw [Znp]
 refine Za (s22 n es h) (Zb (fun h=>by cases h) fun _=>Za (s39 n es (by omega) h.ord) (Zd rfl ?_))
 refine Zh (Yv (Zax hk h.ord) _) (Zb (fun h=>by cases h) fun _=>Za (s40 n es (by omega) h.few) ?_)
 rw [Zjd]
 refine Zd (by omega) (Zd (by rw [List.length_map];omega) (Zh (JT hk _) (Za (s54 _ _ es[k].q es[k].s (by have:=hok.ql;omega) hok.sl) (Za (a:=(es.take k++es.drop (k+1)).map ec) ?_ (Zj rfl)))))
 rw [Zpw,Zf0 (by omega)]
 unfold ZpQ
 rw [JF (by omega),JF (by omega),JF (by rw [List.length_map];omega),Int.toNat_natCast,Int.toNat_natCast]
 simp [List.map_take,List.map_drop]
theorem ZrU (n:Int) (es:List Ep) (h:Vld n es) (o:Int) (hno:∀ e∈es,e.o≠o):g24 n (es.map ec) o=some (0,E0,E0,17):=by
 refine ZU ?_
 have hlen:=h.len
 rw [Znp]
 refine Za (s22 n es h) (Zb (fun h=>by cases h) fun _=>Za (s39 n es (by omega) h.ord) (Zd rfl ?_))
 exact Zh (Yv (WQ hno) _) (Zb (fun _=>Zj rfl) fun h=>(h rfl).elim)
def keep (d:Int) (l:List Ms):List Ms:=l.filter fun m=>decide (m.c≠d)
theorem KG {d:Int} {l:List Ms} {j:Nat} (h:j < l.length):keep d (l.take (j+1))=if l[j].c=d then keep d (l.take j) else keep d (l.take j)++[l[j]]:=by
 unfold keep
 rw [List.take_succ_eq_append_getElem h,List.filter_append]
 by_cases h0:l[j].c=d
 ·rw [if_pos h0];simp [h0]
 ·rw [if_neg h0];simp [h0]
theorem YX (d:Int) (l:List Ms):(keep d l).length≤l.length:=List.length_filter_le _ _
theorem Zrx (l:List Ms) (hl:l.length < 1000) (d:Int):Ret (fun r=>r.2=d∧((r.1 = -1∧∀ m∈l,m.c≠d)∨∃ j:Nat,r.1=(j:Int)∧j < l.length∧∃ hj:j < l.length,l[j].c=d∧∀ (i:Nat) (hi:i < j),l[i].c≠d)) (Zk6 (l.map mc) d):=by
 rw [ZkA,List.length_map]
 refine ZK (F:=fun k (_:Unit) i=>ZaT k (l.map mc) (l.length:Int) i d) l.length (fun i _=>∀ (j:Nat) (hj:j < l.length),j < i→l[j].c≠d) hl (fun k i _ hi hs next=>?_) () (fun j hj h=>by omega)
 refine Zh (Zge ..) (Zb (fun hh=>?_) fun hh=>?_)
 ·simp only [CQ] at hh
  have hi':i < l.length:=by omega
  refine Zh (K9 hi' _) (Za (Znw ..) (Zb (fun h1=>?_) fun h1=>?_))
  ·simp only [CQ,mv] at h1
   exact Zj ⟨rfl,.inr ⟨i,rfl,hi',hi',h1,fun j hj=>hs j (by omega) hj⟩⟩
  ·simp only [CQ,mv] at h1
   rw [JO hi hl]
   refine next hi' () fun j hj hji=>?_
   by_cases hje:j=i
   ·subst hje;exact h1
   ·exact hs j hj (by omega)
 ·simp only [CQ] at hh
  refine Zj ⟨rfl,.inl ⟨rfl,fun m hm=>?_⟩⟩
  obtain ⟨j,hj,rfl⟩:=List.getElem_of_mem hm
  exact hs j hj (by omega)
theorem Zok (l:List Ms) (w:Nat) (hw:w < l.length) (m:Ms):Zw (l.map mc) w 0 (mc m)=(l.set w m).map mc:=by
 have:(l.map mc)[w]? = some (mc l[w]):=by rw [List.getElem?_map,List.getElem?_eq_getElem hw];rfl
 rw [show Zw (l.map mc) w 0 (mc m)=(l.map mc).modify w (fun x=>setCells x 0 (mc m)) from rfl,J5 this,List.map_set]
 rfl
theorem s59 (l:List Ms) (hl:l.length≤400) (d:Int):Zhi (l.map mc) d=some ((keep d l).map mc,d):=by
 refine ZU ?_
 rw [Zi9]
 refine Wj (Zrx l (by omega) d) fun r hr=>?_
 obtain ⟨r1,r2⟩:=r
 obtain ⟨rfl,hr⟩:r2=d∧_:=hr
 refine Zb (fun hm=>?_) fun hm=>?_
 ·simp only [CQ] at hm
  rcases hr with ⟨_,hno⟩ | ⟨j,hj,_⟩
  ·have:keep r2 l=l:=by
    unfold keep
    rw [List.filter_eq_self]
    intro m hm
    simpa using hno m hm
   rw [this]
   exact Zj rfl
  ·have hj':r1=(j:Int):=hj
   omega
 ·simp only [CQ] at hm
  rcases hr with ⟨h1,_⟩ | ⟨j,hj,_,hjl,hjd,hjb⟩
  ·exact (hm h1).elim
  obtain rfl:r1=(j:Int):=hj
  have hk0:keep r2 (l.take j)=l.take j:=by
   unfold keep
   rw [List.filter_eq_self]
   intro m hm
   obtain ⟨i,hi,rfl⟩:=List.getElem_of_mem hm
   rw [List.length_take] at hi
   rw [List.getElem_take]
   simpa using hjb i (by omega)
  have key:∀ (t i fuel:Nat) (cur:List Ms) (w:Nat),i+t=l.length→t < fuel→cur.length=l.length→cur.take w=keep r2 (l.take i)→cur.drop i=l.drop i→w=(keep r2 (l.take i)).length→
    Ret (fun r=>r=((keep r2 l).map mc,r2)) (Wu fuel (cur.map mc) (w:Int) (i:Int) r2):=by
   intro t
   induction t with
   | zero =>
    intro i fuel cur w hi hf hc ht hdr hw
    obtain ⟨f,rfl⟩:∃ f,fuel=f+1:=⟨fuel-1,by omega⟩
    have hil:i=l.length:=by omega
    subst hil
    rw [List.take_length] at ht hw
    have hkl:=YX r2 l
    refine Zh (Zbi ..) (Zb (fun hh=>?_) fun _=>?_)
    ·rw [List.length_map] at hh;simp only [CQ] at hh;omega
    ·refine Zd (by omega) (Zd (by rw [List.length_map];omega) (Zd (by omega) (Zd ?_ (Zj ?_))))
     ·rw [List.length_append,Int.toNat_natCast,List.length_take,List.length_map];omega
     ·rw [Int.toNat_natCast,List.take_append_of_le_length (by rw [List.length_take,List.length_map];omega),List.take_take,Nat.min_self,← List.map_take,ht]
   | succ t ih =>
    intro i fuel cur w hi hf hc ht hdr hw
    obtain ⟨f,rfl⟩:∃ f,fuel=f+1:=⟨fuel-1,by omega⟩
    have hil:i < l.length:=by omega
    have hic:i < cur.length:=by omega
    have hkl:=YX r2 (l.take i)
    rw [List.length_take] at hkl
    have hci:cur[i]=l[i]:=by
     have h1:=congrArg (·[0]?) hdr
     simp only [List.getElem?_drop,Nat.add_zero,List.getElem?_eq_getElem hic,List.getElem?_eq_getElem hil,Option.some.injEq] at h1
     exact h1
    have hdr1:cur.drop (i+1)=l.drop (i+1):=by
     have:=congrArg (List.drop 1) hdr
     rw [List.drop_drop,List.drop_drop] at this
     exact this
    refine Zh (Zbi ..) (Zb (fun _=>?_) fun hh=>?_)
    ·refine Zd (by omega) (Zd (by rw [List.length_map];omega) (Zh (K9 hic _) (Za (Znw ..) (Zb (fun h1=>?_) fun h1=>?_))))
     ·simp only [CQ,mv] at h1
      rw [hci] at h1
      have e1:([AV.val (.int .i64 (mv cur[i]).1),AV.val (.int .i64 (mv cur[i]).2.1),AV.slice false 1 (mv cur[i]).2.2.1,AV.val (.int .i64 (mv cur[i]).2.2.2)] : List AV)=mc cur[i]:=rfl
      refine Zd (by omega) (Zd (by rw [List.length_map];omega) (Zd (by omega) (Zd (by rw [List.length_map];omega) ?_)))
      rw [e1,Int.toNat_natCast,Zok cur w (by omega),Zf0 (by omega),Zf0 (by omega),hci]
      refine ih (i+1) f (cur.set w l[i]) (w+1) (by omega) (by omega) (by rw [List.length_set];exact hc) ?_ ?_ ?_
      ·rw [KG hil,if_neg h1,← ht,List.take_succ_eq_append_getElem (by rw [List.length_set];omega),List.getElem_set_self,List.take_set_of_le (Nat.le_refl _)]
      ·rw [List.drop_set,if_pos (by omega)];exact hdr1
      ·rw [KG hil,if_neg h1,List.length_append,← hw];rfl
     ·simp only [CQ,mv] at h1
      rw [hci] at h1
      have h1:=Decidable.not_not.1 h1
      rw [Zf0 (by omega)]
      exact ih (i+1) f cur w (by omega) (by omega) hc (by rw [KG hil,if_pos h1];exact ht) hdr1 (by rw [KG hil,if_pos h1];exact hw)
    ·rw [List.length_map] at hh;simp only [CQ] at hh;omega
  rw [Zf0 (by omega)]
  refine key (l.length-(j+1)) (j+1) YS l j (by omega) (by have:=Zna (n:=l.length) (by omega);omega) rfl ?_ rfl ?_
  ·rw [KG hjl,if_pos hjd,hk0]
  ·rw [KG hjl,if_pos hjd,hk0,List.length_take];omega
end Go.Proofs.Ytigknndkmlhmfaa
end

section
namespace Go.Proofs.Ytigknndkmlhmfaa
open Go Go.AM
set_option linter.unusedSimpArgs false
set_option linter.unusedVariables false
set_option maxRecDepth 100000
def less (d:Int) (e:Ep):Ep:={ e with q:=keep d e.q,s:=keep d e.s }
def left (d:Int) (es:List Ep):List Ep:=(es.filter fun e=>decide (e.v≠d)).map (less d)
def Zay (d:Int) (es:List Ep):List (Int×Int):=(es.filter fun e=>decide (e.v=d)).flatMap fun e=>outs (keep d e.s++keep d e.q)
theorem ZeM {d:Int} {es:List Ep} {j:Nat} (h:j < es.length):left d (es.take (j+1))=if es[j].v=d then left d (es.take j) else left d (es.take j)++[less d es[j]]:=by
 unfold left
 rw [List.take_succ_eq_append_getElem h,List.filter_append,List.map_append]
 by_cases h0:es[j].v=d
 ·rw [if_pos h0];simp [h0]
 ·rw [if_neg h0];simp [h0]
theorem Zbz {d:Int} {es:List Ep} {j:Nat} (h:j < es.length):Zay d (es.take (j+1))=if es[j].v=d then Zay d (es.take j)++outs (keep d es[j].s++keep d es[j].q) else Zay d (es.take j):=by
 unfold Zay
 rw [List.take_succ_eq_append_getElem h,List.filter_append,List.flatMap_append]
 by_cases h0:es[j].v=d
 ·rw [if_pos h0];simp [h0]
 ·rw [if_neg h0];simp [h0]
theorem ZhL (d:Int) (es:List Ep):(left d es).length≤es.length:=by
 unfold left
 rw [List.length_map]
 exact List.length_filter_le _ _
def el (e:Ep):List AV:=[I e.o,I e.v,.nest 4 false 41 [],.nest 4 false 41 []]
def gon (es:List Ep) (i:Nat):LL:=(es.take i).map el++(es.drop i).map en
theorem Znn {es:List Ep} {i:Nat} (h:i < es.length):(gon es i)[i]? = some (en es[i]):=by
 unfold gon
 rw [List.getElem?_append_right (by simp;omega)]
 have:i-((es.take i).map el).length=0:=by simp;omega
 rw [this,List.getElem?_map,List.getElem?_drop,Nat.add_zero,List.getElem?_eq_getElem h]
 rfl
theorem ZkH (es:List Ep) (i:Nat):(gon es i).length=es.length:=by
 simp only [gon,List.length_append,List.length_map,List.length_take,List.length_drop];omega
theorem ZhE {es:List Ep} {i:Nat} (h:i < es.length):Zm7 (gon es i) i=gon es (i+1):=by
 have h1:((es.take i).map el).length=i:=by simp;omega
 have:Zm7 (gon es i) i=(gon es i).set i (el es[i]):=J5 (Znn h)
 rw [this]
 unfold gon
 rw [List.set_append_right _ _ (by omega),h1,Nat.sub_self,List.drop_eq_getElem_cons h,List.map_cons,List.set_cons_zero,List.take_succ_eq_append_getElem h,List.map_append,List.append_assoc]
 rfl
theorem s32 (n:Int) (es:List Ep) (h:Vld n es) (d:Int) (hd0:0≤d) (hd1:d < 32):g32 n (es.map ec) d=some (n,(left d es).map ec,(Zay d es).map oc,0):=by
 refine ZU ?_
 have hlen:=h.len
 rw [Zqm]
 refine Za (s22 n es h) (Zb (fun h=>by cases h) fun _=>Za (s38 d hd0 hd1) (Zb (fun h=>by cases h) fun _=>Za (s40 n es (by omega) h.few) ?_))
 have hdl:∀ i,i≤es.length→(Zay d (es.take i)).length≤i*808:=fun i=>by
  induction i with
  | zero => intro _; simp [Zay]
  | succ i ih =>
   intro hi
   have hok:=h.ok _ (List.getElem_mem (show i < es.length by omega))
   have:=ih (by omega)
   rw [Zbz (show i < es.length by omega)]
   split
   ·have h1:=Zd8 (keep d es[i].s++keep d es[i].q)
    have h2:=YX d es[i].s
    have h3:=YX d es[i].q
    have h4:=hok.ql
    have h5:=hok.sl
    rw [List.length_append] at h1
    rw [List.length_append]
    omega
   ·omega
 have h0:es.map en=gon es 0:=by simp [gon]
 rw [h0,show List.length (n,gon es 0).2=es.length from ZkH es 0]
 refine ZK (F:=fun k (s:LL×LL×LL) i=>Zjq k n s.1 d 0 E0 n s.2.1 s.2.2 (es.length:Int) i) es.length (fun i s=>s=(gon es i,(left d (es.take i)).map ec,(Zay d (es.take i)).map oc)) (by omega) (fun k i s hi hs next=>?_) (gon es 0,E0,E0) (by simp [left,Zay])
 subst hs
 refine Zh (Zlu ..) (Zb (fun hh=>?_) fun hh=>?_)
 ·simp only [CQ] at hh
  have hi':i < es.length:=by omega
  have hok:=h.ok _ (List.getElem_mem hi')
  have hat:=Znn hi'
  have hgl:=ZkH es i
  have r1:(0:Int)≤(i:Int):=Int.natCast_nonneg i
  have hel:∀ (k:Int×Int×LL×LL→Option (Int×LL×LL×Int)),ZJ (Ziz (Kz (gon es i) i 0 4) 0 4) (i:Int) [.int .i64,.int .i64,.slice 4,.slice 4] k=k (ev es[i]):=fun k=>J3 (sh:=[.int .i64,.int .i64,.slice 4,.slice 4]) k r1 (cs:=ec es[i]) (by
   rw [Int.toNat_natCast]
   have hz:Kz (gon es i) i 0 4=(gon es i).set i (ec es[i]):=J5 hat
   unfold Ziz
   rw [hz,List.getElem?_map,List.getElem?_set]
   simp [hgl,hi',ec]) rfl
  have hll:=ZhL d (es.take i)
  rw [List.length_take] at hll
  have hdi:=hdl i hi
  rw [Int.toNat_natCast]
  refine Zd r1 (Zd (by rw [hgl];omega) (Zd (ZbY hat rfl) (Zd (ZbY hat rfl) (Zh (hel _) (Za (s59 es[i].q (by have:=hok.ql;omega) d) (Za (s59 es[i].s hok.sl d) (Zb (fun hv=>?_) fun hv=>?_)))))))
  ·simp only [CQ,ev] at hv
   have h2:=YX d es[i].s
   have h3:=YX d es[i].q
   have h4:=hok.ql
   have h5:=hok.sl
   have h6:=Zd8 (keep d es[i].s++keep d es[i].q)
   rw [List.length_append] at h6
   refine Za (s54 _ _ (keep d es[i].q) (keep d es[i].s) (by omega) (by omega)) (Zd (ZdX (by rw [List.length_map,List.length_map];omega) (by decide)) ?_)
   rw [ZhE hi',JO hi (by omega)]
   exact next hi' _ (by rw [ZeM hi',if_pos hv,Zbz hi',if_pos hv,List.map_append])
  ·simp only [CQ,ev] at hv
   refine Zd (Jb (by simp;omega) (by decide)) ?_
   rw [ZhE hi',JO hi (by omega)]
   exact next hi' _ (by rw [ZeM hi',if_neg hv,Zbz hi',if_neg hv,List.map_append])
 ·simp only [CQ] at hh
  have:i=es.length:=by omega
  subst this
  rw [List.take_length]
  exact Zj rfl
end Go.Proofs.Ytigknndkmlhmfaa
end

section
namespace Go.Proofs.Ytigknndkmlhmfaa
open Go Go.AM
set_option linter.unusedSimpArgs false
set_option linter.unusedVariables false
set_option maxRecDepth 100000
theorem s50 (o:Int) (h0:0≤o) (h1:o < 32):g50 o=some true:=by
 refine ZU ?_
 rw [ZpD]
 refine Zb (fun _=>Zj ?_) fun h=>?_
 ·simp only [CQ];exact h1
 ·simp only [CQ] at h;omega
theorem s53 (m:Ms) (h:Zcs m):g53 m.t m.c m.w m.s=some true:=by
 obtain ⟨h1,h2,h3,h4,h5,h6⟩:=h
 refine ZU ?_
 rw [ZpU]
 refine Zb (fun _=>Za (s50 m.c h2 h3) (Zb (fun _=>Zb (fun _=>Zb (fun _=>Zj ?_) fun h=>?_) fun h=>?_) fun h=>?_)) fun h=>?_
 ·simp only [CQ];exact h6
 ·simp only [CQ] at h;omega
 ·simp only [CQ] at h;omega
 ·exact (h rfl).elim
 ·simp only [CQ] at h;omega
def tkF (es:List Ep):List Int:=es.flatMap fun e=>tk (e.s++e.q)
theorem ZdJ:∀ es:List Ep,(tkF es).Perm (tkE es)
 | [] => List.Perm.refl _
 | e :: es => by
  unfold tkF tkE
  rw [List.flatMap_cons,List.flatMap_cons,Yh,Yh]
  exact (List.perm_append_comm).append (ZdJ es)
theorem Zia {es:List Ep} {j:Nat} (h:j < es.length):tkF (es.take (j+1))=tkF (es.take j)++tk (es[j].s++es[j].q):=by
 unfold tkF
 rw [List.take_succ_eq_append_getElem h,List.flatMap_append]
 simp
theorem Znr (l:List Ms):(tk l).length≤l.length:=by
 unfold tk
 exact Nat.le_trans (List.length_filter_le _ _) (by simp)
theorem Zgy {n:Int} {es:List Ep} (h:Vld n es):∀ i,i≤es.length→(tkF (es.take i)).length≤i*408
 | 0, _ => by simp [tkF]
 | i + 1, hi => by
  have:=Zgy h i (by omega)
  have hok:=h.ok _ (List.getElem_mem (show i < es.length by omega))
  rw [Zia (show i < es.length by omega),List.length_append]
  have h1:=Znr (es[i].s++es[i].q)
  rw [List.length_append] at h1
  have:=hok.ql
  have:=hok.sl
  omega
theorem s23 (n:Int) (es:List Ep) (h:Vld n es):g23 n (es.map ec)=some true:=by
 refine ZU ?_
 have hlen:=h.len
 have hn0:=h.n0
 have hn1:=h.n1
 rw [Zpe]
 refine Zb (fun hh=>?_) fun _=>Zb (fun hh=>?_) fun _=>Zb (fun hh=>?_) fun _=>?_
 ·simp only [CQ] at hh;omega
 ·simp only [CQ] at hh;omega
 ·simp only [CQ,List.length_map] at hh;omega
 have hnd:(tkF es).Nodup:=(List.Perm.nodup_iff (ZdJ es)).2 h.nd
 have hfl:=Zgy h es.length (Nat.le_refl _)
 rw [List.take_length] at hfl
 -- the tokens are compared
 have last:Ret (fun r=>r=true) (ZmT YS (Zc (tkF es)) 0):=by
  obtain ⟨K,hK⟩:∃ K,K=tkF es:=⟨_,rfl⟩
  rw [← hK] at hnd hfl ⊢
  have hKl:(Zc K).length=K.length:=by simp [Zc]
  refine Zew (F:=fun k (_:Unit) i=>ZmT k (Zc K) i) (n:=K.length) (fun _ _=>True) (by omega) (fun k i _ hi _ next=>?_) (fun k _ _=>?_) () trivial
  ·refine Zh (ZhF ..) (Zb (fun _=>?_) fun hh=>?_)
   ·refine Zew (F:=fun k' (_:Unit) j=>ZlT (F23.lp [1,1,1,0,1,0] 0 r0 k) k' (Zc K) (i:Int) j) (n:=i) (fun _ _=>True) (by omega) (fun k' j _ hj _ nx=>?_) (fun k' _ _=>?_) () trivial
    ·refine Zh (Zhe ..) (Zb (fun _=>?_) fun hh=>?_)
     ·refine Zh (Yo hi _) (Zh (Yo (show j < K.length by omega) _) (Zb (fun he=>?_) fun _=>?_))
      ·simp only [CQ] at he
       have:=(List.nodup_iff_pairwise_ne.1 hnd)
       have:=List.pairwise_iff_getElem.1 this j i (by omega) hi hj
       exact (this he.symm).elim
      ·rw [Zf0 (by omega)]
       exact nx () trivial
     ·simp only [CQ] at hh;omega
    ·refine Zh (Zhe ..) (Zb (fun hh=>?_) fun _=>?_)
     ·simp only [CQ] at hh;omega
     ·rw [Zf0 (by omega)]
      exact next () trivial
   ·rw [hKl] at hh;simp only [CQ] at hh;omega
  ·refine Zh (ZhF ..) (Zb (fun hh=>?_) fun _=>Zj rfl)
   rw [hKl] at hh;simp only [CQ] at hh;omega
 refine ZK (F:=fun k (s:LL) i=>Zn1 k n (es.map ec) s i) es.length (fun i s=>s=Zc (tkF (es.take i))) (by omega) (fun k i s hi hs next=>?_) E0 rfl
 subst hs
 refine Zh (Zl1 ..) (Zb (fun hh=>?_) fun hh=>?_)
 ·rw [List.length_map] at hh
  simp only [CQ] at hh
  have hi':i < es.length:=by omega
  have he:=h.ok _ (List.getElem_mem hi')
  have e0:=he.o0
  have e1:=he.o1
  have e2:=he.ql
  have e3:=he.sl
  have hgl:=Zgy h i (by omega)
  have hin:Ret (fun r=>r=true) ((g50 (ev es[i]).2.1).bind fun (r8:Bool)=>
    if (!r8)=true then some false else if (cop .gtr (List.length (ev es[i]).2.2.1:Int) 8)=true then some false else
    Zv (Jw E0 (ev es[i]).2.2.2 48)<|Zv (Jw (ev es[i]).2.2.2 (ev es[i]).2.2.1 48)<|
    Zck (F23.lp [1,1,1,0] 0 r0 k) YS n (es.map ec) (Zc (tkF (es.take i))) (i:Int) (ev es[i]).1 (ev es[i]).2.1 (ev es[i]).2.2.1 (ev es[i]).2.2.2 ((ev es[i]).2.2.2++(ev es[i]).2.2.1) 0):=by
   refine Za (s50 _ he.v0 he.v1) (Zb (fun h=>by cases h) fun _=>Zb (fun hq=>?_) fun _=>Zd (Jb (by show 0+(es[i].s.map mc).length≤_;rw [List.length_map];omega) (by decide)) (Zd (Jb (by show (es[i].s.map mc).length+(es[i].q.map mc).length≤_;rw [List.length_map,List.length_map];omega) (by decide)) ?_))
   ·simp only [CQ,ev,List.length_map] at hq;omega
   obtain ⟨l,hl⟩:∃ l,l=es[i].s++es[i].q:=⟨_,rfl⟩
   have hlm:(ev es[i]).2.2.2++(ev es[i]).2.2.1=l.map mc:=by rw [hl,List.map_append];rfl
   have hll:l.length=es[i].s.length+es[i].q.length:=by rw [hl,List.length_append]
   rw [hlm]
   refine ZK (F:=fun k' (s:LL) j=>Zck (F23.lp [1,1,1,0] 0 r0 k) k' n (es.map ec) s (i:Int) (ev es[i]).1 (ev es[i]).2.1 (ev es[i]).2.2.1 (ev es[i]).2.2.2 (l.map mc) j) l.length (fun j s=>s=Zc (tkF (es.take i)++tk (l.take j))) (by omega) (fun k' j s hj hs nx=>?_) _ (by simp [tk])
   subst hs
   refine Zh (ZlZ ..) (Zb (fun hh=>?_) fun hh=>?_)
   ·rw [List.length_map] at hh
    simp only [CQ] at hh
    have hj':j < l.length:=by omega
    have hmo:Zcs l[j]:=by
     have hm:l[j]∈es[i].s++es[i].q:=hl ▸ List.getElem_mem hj'
     rcases List.mem_append.1 hm with hm | hm
     ·exact (he.sm _ hm).1
     ·exact he.qm _ hm
    have hm0:=hmo.1
    have hle:l[j].t≤n:=by
     by_cases h0:l[j].t=0
     ·omega
     ·refine h.le _ ((ZdJ es).mem_iff.1 ?_)
      unfold tkF
      rw [List.mem_flatMap]
      refine ⟨es[i],List.getElem_mem hi',?_⟩
      rw [← hl]
      unfold tk
      rw [List.mem_filter]
      exact ⟨List.mem_map.2 ⟨_,List.getElem_mem hj',rfl⟩,by simp [h0]⟩
    have htl:=Znr (l.take j)
    rw [List.length_take] at htl
    have more:Ret (fun r=>r=true) (if (cop .gtr (mv l[j]).1 0)=true then
      Zv (Jw (Zc (tkF (es.take i)++tk (l.take j))) (E0++[[AV.val (.int .i64 (mv l[j]).1)]]) 8)<|
      Zck (F23.lp [1,1,1,0] 0 r0 k) k' n (es.map ec) (Zc (tkF (es.take i)++tk (l.take j))++(E0++[[AV.val (.int .i64 (mv l[j]).1)]])) (i:Int) (ev es[i]).1 (ev es[i]).2.1 (ev es[i]).2.2.1 (ev es[i]).2.2.2 (l.map mc) (iop .add .i64 (j:Int) 1)
      else Zck (F23.lp [1,1,1,0] 0 r0 k) k' n (es.map ec) (Zc (tkF (es.take i)++tk (l.take j))) (i:Int) (ev es[i]).1 (ev es[i]).2.1 (ev es[i]).2.2.1 (ev es[i]).2.2.2 (l.map mc) (iop .add .i64 (j:Int) 1)):=by
     refine Zb (fun ht=>Zd (ZdX (by simp [Zc];omega) (by decide)) ?_) fun ht=>?_
     ·simp only [CQ,mv] at ht
      rw [JO hj (by omega)]
      refine nx hj' _ ?_
      have hap:∀ (A:List Int) (t:Int),Zc (A++[t])=Zc A++[Zpy t]:=fun A t=>by unfold Zc;rw [List.map_append];rfl
      rw [Zbb hj',if_neg (by omega),← List.append_assoc (tkF (es.take i)) (tk (l.take j)) [l[j].t],hap]
      rfl
     ·simp only [CQ,mv] at ht
      rw [JO hj (by omega)]
      exact nx hj' _ (by rw [Zbb hj',if_pos (by omega)])
    refine Zh (K9 hj' _) (Za (s53 _ hmo) (Zb (fun h=>by cases h) fun _=>Zb (fun hg=>?_) fun _=>Zb (fun hs=>Zb (fun h0=>?_) fun _=>more) fun _=>more))
    ·simp only [CQ,mv] at hg;omega
    ·simp only [CQ,mv,ev,List.length_map] at hs h0
     have hjs:j < es[i].s.length:=by omega
     have:l[j]=es[i].s[j]:=by simp only [hl];exact List.getElem_append_left hjs
     rw [this] at h0
     exact ((he.sm _ (List.getElem_mem hjs)).2 h0).elim
   ·rw [List.length_map] at hh
    simp only [CQ] at hh
    have:j=l.length:=by omega
    subst this
    rw [List.take_length,JO hi (by omega),hl,← Zia hi']
    exact next hi' _ rfl
  refine Zh (JT hi' _) (Zb (fun hg=>?_) fun _=>Zb (fun hg=>?_) fun _=>Zb (fun hp=>?_) fun _=>hin)
  ·simp only [CQ,ev] at hg;omega
  ·simp only [CQ,ev] at hg;omega
  ·simp only [CQ] at hp
   obtain ⟨j,rfl⟩:∃ j,i=j+1:=⟨i-1,by omega⟩
   have hs:iop .sub .i64 ((j+1:Nat):Int) 1=(j:Int):=by rw [Zmu (by omega) (by omega)];omega
   rw [hs]
   have hj:j < es.length:=by omega
   refine Zh (JT hj _) (Zb (fun hg=>?_) fun _=>hin)
   simp only [CQ,ev] at hg
   have:=List.pairwise_iff_getElem.1 h.ord j (j+1) hj hi' (by omega)
   omega
 ·rw [List.length_map] at hh
  simp only [CQ] at hh
  have:i=es.length:=by omega
  subst this
  rw [List.take_length]
  exact last
end Go.Proofs.Ytigknndkmlhmfaa
end

section
namespace Go.Proofs.Ytigknndkmlhmfaa
open Go Go.AM
set_option linter.unusedSimpArgs false
set_option linter.unusedVariables false
set_option maxRecDepth 100000
def wt (c:Int) (l:List Ms):List Int:=(l.filter fun m=>decide (m.c=c∧0 < m.t)).map Ms.t
def wtE (c:Int) (es:List Ep):List Int:=es.flatMap fun e=>wt c (e.q++e.s)
theorem ZgP {c:Int} {l:List Ms} {j:Nat} (h:j < l.length):wt c (l.take (j+1))=if l[j].c=c∧0 < l[j].t then wt c (l.take j)++[l[j].t] else wt c (l.take j):=by
 unfold wt
 rw [List.take_succ_eq_append_getElem h,List.filter_append,List.map_append]
 by_cases h0:l[j].c=c∧0 < l[j].t
 ·rw [if_pos h0];simp [h0]
 ·rw [if_neg h0];simp [h0]
theorem ZnC (c:Int) (l:List Ms):(wt c l).length≤l.length:=by
 unfold wt
 rw [List.length_map]
 exact List.length_filter_le _ _
theorem Zh4 {c:Int} {es:List Ep} {j:Nat} (h:j < es.length):wtE c (es.take (j+1))=wtE c (es.take j)++wt c (es[j].q++es[j].s):=by
 unfold wtE
 rw [List.take_succ_eq_append_getElem h,List.flatMap_append]
 simp
theorem Zgr {n:Int} {es:List Ep} (h:Vld n es) (c:Int):∀ i,i≤es.length→(wtE c (es.take i)).length≤i*408
 | 0, _ => by simp [wtE]
 | i + 1, hi => by
  have:=Zgr h c i (by omega)
  have hok:=h.ok _ (List.getElem_mem (show i < es.length by omega))
  rw [Zh4 (show i < es.length by omega),List.length_append]
  have h1:=ZnC c (es[i].q++es[i].s)
  rw [List.length_append] at h1
  have:=hok.ql
  have:=hok.sl
  omega
def Zmt (l:List Int):List Int:=l.mergeSort fun a b=>decide (a≤b)
theorem ZqW (A:List Int) (t:Int):Zc (A++[t])=Zc A++[Zpy t]:=by unfold Zc;rw [List.map_append];rfl
theorem s16 (n:Int) (es:List Ep) (h:Vld n es) (c:Int):g16 n (es.map ec) c=some (Zc (Zmt (wtE c es))):=by
 refine ZU ?_
 have hlen:=h.len
 rw [ZpX]
 refine Za (s22 n es h) (Zb (fun h=>by cases h) fun _=>?_)
 rw [List.length_map]
 refine ZK (F:=fun k (s:LL) i=>Zn0 k c s (es.map ec) (es.length:Int) i) es.length (fun i s=>s=Zc (wtE c (es.take i))) (by omega) (fun k i s hi hs next=>?_) E0 rfl
 subst hs
 refine Zh (Zm1 ..) (Zb (fun hh=>?_) fun hh=>?_)
 ·simp only [CQ] at hh
  have hi':i < es.length:=by omega
  have he:=h.ok _ (List.getElem_mem hi')
  have e2:=he.ql
  have e3:=he.sl
  have hgl:=Zgr h c i (by omega)
  refine Zh (JT hi' _) (Za (s44 es[i].q es[i].s (by omega) he.sl) ?_)
  obtain ⟨l,hl⟩:∃ l,l=es[i].q++es[i].s:=⟨_,rfl⟩
  have hll:l.length=es[i].q.length+es[i].s.length:=by rw [hl,List.length_append]
  rw [← hl,List.length_map]
  refine ZK (F:=fun k' (s:LL) j=>Zim (F16.lp [0,1,0] 0 r0 k) k' c s (es.map ec) (es.length:Int) (i:Int) (l.map mc) (l.length:Int) j) l.length (fun j s=>s=Zc (wtE c (es.take i)++wt c (l.take j))) (by omega) (fun k' j s hj hs nx=>?_) _ (by simp [wt])
  subst hs
  refine Zh (ZmB ..) (Zb (fun hh=>?_) fun hh=>?_)
  ·simp only [CQ] at hh
   have hj':j < l.length:=by omega
   have htl:=ZnC c (l.take j)
   rw [List.length_take] at htl
   refine Zd (by omega) (Zd (by rw [List.length_map];omega) (Zh (K9 hj' _) (Zb (fun hc=>Zb (fun ht=>Zd (ZdX (by simp [Zc];omega) (by decide)) ?_) fun ht=>?_) fun hc=>?_)))
   ·simp only [CQ,mv] at hc ht
    rw [JO hj (by omega)]
    refine nx hj' _ ?_
    rw [ZgP hj',if_pos ⟨hc,ht⟩,← List.append_assoc (wtE c (es.take i)) (wt c (l.take j)) [l[j].t],ZqW]
    rfl
   ·simp only [CQ,mv] at hc ht
    rw [JO hj (by omega)]
    exact nx hj' _ (by rw [ZgP hj',if_neg (by omega)])
   ·simp only [CQ,mv] at hc
    rw [JO hj (by omega)]
    exact nx hj' _ (by rw [ZgP hj',if_neg (fun h=>hc h.1)])
  ·simp only [CQ] at hh
   have:j=l.length:=by omega
   subst this
   rw [List.take_length,JO hi (by omega),hl,← Zh4 hi']
   exact next hi' _ rfl
 ·simp only [CQ] at hh
  have:i=es.length:=by omega
  subst this
  rw [List.take_length]
  have hgl:=Zgr h c es.length (Nat.le_refl _)
  rw [List.take_length] at hgl
  refine Zd ?_ (Zj ?_)
  ·show ((Zc (wtE c es)).all ZeE&&decide ((Zc (wtE c es)).length≤1048576))=true
   rw [Bool.and_eq_true,decide_eq_true_eq,List.all_eq_true]
   refine ⟨fun r hr=>?_,by simp [Zc];omega⟩
   obtain ⟨z,_,rfl⟩:=List.mem_map.1 hr
   rfl
  ·exact Zdc (wtE c es)
end Go.Proofs.Ytigknndkmlhmfaa
end

section
namespace Go.Proofs.Ytigknndkmlhmfaa
open Go Go.AM
set_option linter.unusedSimpArgs false
set_option linter.unusedVariables false
set_option maxRecDepth 100000
theorem Zsf (ms:List Ms) (hl:ms.length < 1000) (t:Int) (h:∀ m∈ms,m.t≠t):Zhp (ms.map mc) t=some (-1,t):=by
 refine ZU ?_
 rw [ZeJ,List.length_map]
 refine ZK (F:=fun k (_:Unit) i=>Wm k (ms.map mc) (ms.length:Int) i t) ms.length (fun _ _=>True) hl (fun k i _ hi _ next=>?_) () trivial
 refine Zh (Za7 ..) (Zb (fun hh=>?_) fun _=>Zj rfl)
 simp only [CQ] at hh
 have hi':i < ms.length:=by omega
 refine Zh (K9 hi' _) (Za (Zm3 ..) (Zb (fun h1=>?_) fun _=>?_))
 ·simp only [CQ,mv] at h1
  exact (h _ (List.getElem_mem hi') h1).elim
 ·rw [JO hi hl]
  exact next hi' () trivial
theorem Zsc (ms:List Ms) (hl:ms.length < 1000) (t:Int) (j:Nat) (hj:j < ms.length) (h1:ms[j].t=t) (h:∀ (i:Nat) (hi:i < j),ms[i].t≠t):Zhp (ms.map mc) t=some ((j:Int),t):=by
 refine ZU ?_
 rw [ZeJ,List.length_map]
 refine ZK (F:=fun k (_:Unit) i=>Wm k (ms.map mc) (ms.length:Int) i t) ms.length (fun i _=>i≤j) hl (fun k i _ hi hle next=>?_) () (Nat.zero_le _)
 refine Zh (Za7 ..) (Zb (fun hh=>?_) fun hh=>?_)
 ·have hi':i < ms.length:=by omega
  refine Zh (K9 hi' _) (Za (Zm3 ..) (Zb (fun h2=>?_) fun h2=>?_))
  ·simp only [CQ,mv] at h2
   have:i=j:=by
    by_cases hij:i < j
    ·exact (h i hij h2).elim
    ·omega
   subst this
   exact Zj rfl
  ·simp only [CQ,mv] at h2
   rw [JO hi hl]
   refine next hi' () ?_
   by_cases hij:i=j
   ·subst hij;exact (h2 h1).elim
   ·omega
 ·simp only [CQ] at hh;omega
theorem Zog (l:List Ms) (j:Nat) (hj:j < l.length) (hl:l.length < 1000):g48 (l.map mc) (j:Int) (iop .add .i64 (j:Int) 1)=some ((l.take j++l.drop (j+1)).map mc):=by
 rw [ZpK,Zf0 (by omega)]
 unfold ZpQ
 rw [JF (by omega),JF (by omega),JF (by rw [List.length_map];omega),Int.toNat_natCast,Int.toNat_natCast]
 simp [List.map_take,List.map_drop]
theorem ZrP (n:Int) (es:List Ep) (h:Vld n es) (t v:Int) (w:LL) (hw:w.length≤8) (k j:Nat) (hk:k < es.length) (hj:j < es[k].s.length) (ht:es[k].s[j].t=t) (hb:∀ (i:Nat) (hi:i < j),es[k].s[i].t≠t)
  (hno:∀ (i:Nat) (hi:i < k),∀ m∈es[i].s,m.t≠t) :
  Ret (fun r=>(es[k].v≠v→r=(0,E0,0,0,0,E0,8))∧(es[k].v=v→r=(n,(es.set k { es[k] with s:=es[k].s.take j++es[k].s.drop (j+1) }).map ec,t,es[k].s[j].c,0,w,0))) (g17 n (es.map ec) t v w):=by
 have hlen:=h.len
 rw [Zp8]
 refine Za (s22 n es h) (Zb (fun h=>by cases h) fun _=>Zb (fun h8=>?_) fun _=>?_)
 ·simp only [CQ] at h8;omega
 rw [List.length_map]
 refine ZK (F:=fun k (_:Unit) i=>Zl3 k v w n (es.map ec) t 0 E0 0 0 0 E0 (es.map ec) (es.length:Int) i) es.length (fun i _=>i≤k) (by omega) (fun f i _ hi hik next=>?_) () (Nat.zero_le _)
 refine Zh (ZlH ..) (Zb (fun hh=>?_) fun hh=>?_)
 ·have hi':i < es.length:=by omega
  have he:=h.ok _ (List.getElem_mem hi')
  by_cases hlt:i < k
  ·refine Zh (JT hi' _) (Za (Zsf es[i].s (by have:=he.sl;omega) t (hno i hlt)) (Zb (fun _=>?_) fun h1=>(h1 rfl).elim))
   rw [JO hi (by omega)]
   exact next hi' () (by omega)
  ·have hie:i=k:=by omega
   subst hie
   refine Zh (JT hi' _) (Za (Zsc es[i].s (by have:=he.sl;omega) t j hj ht hb) (Zb (fun h1=>?_) fun _=>Zb (fun h1=>?_) fun h1=>?_))
   ·simp only [CQ] at h1;omega
   ·simp only [CQ,ev] at h1
    exact Zj ⟨fun _=>rfl,fun h=>(h1 h).elim⟩
   ·simp only [CQ,ev] at h1
    have hat:=ZnI hi'
    have hlk:i < (es.map en).length:=by simpa using hi'
    have r1:(0:Int)≤(i:Int):=Int.natCast_nonneg i
    have r2:(i:Int) < (List.length (es.map en):Int):=by omega
    have hg:Wg (es.map en) i 3=es[i].s.map mc:=by
     unfold Wg
     rw [hat]
     rfl
    have hp1:Ye (es.map en) i 3 (AV.nest 4 false 41 E0)=(es.map en).set i [I es[i].o,I es[i].v,.nest 4 true 41 (es[i].q.map mc),.nest 4 false 41 []]:=J5 hat
    have hp2:Ye ((es.map en).set i [I es[i].o,I es[i].v,.nest 4 true 41 (es[i].q.map mc),.nest 4 false 41 []]) i 3 (AV.nest 4 true 41 ((es[i].s.take j++es[i].s.drop (j+1)).map mc)) =
      (es.map en).set i (en { es[i] with s:=es[i].s.take j++es[i].s.drop (j+1) }):=by
     have:Ye ((es.map en).set i [I es[i].o,I es[i].v,.nest 4 true 41 (es[i].q.map mc),.nest 4 false 41 []]) i 3 (AV.nest 4 true 41 ((es[i].s.take j++es[i].s.drop (j+1)).map mc))=((es.map en).set i _).set i (en { es[i] with s:=es[i].s.take j++es[i].s.drop (j+1) }):=J5 (WU hlk)
     rw [this,List.set_set]
    refine Za (s40 n es (by omega) h.few) ?_
    rw [Int.toNat_natCast,hg,hp1,List.length_set]
    refine Zd r1 (Zd r2 (Zd r1 (Zd (ZbY hat rfl) (Za (Zog _ j hj (by have:=he.sl;omega)) (Zd r1 (Zd r2 (Zd r1 (Zd r2 ?_))))))))
    rw [hp2,Zeg es i { es[i] with s:=es[i].s.take j++es[i].s.drop (j+1) } rfl]
    refine Zh (K9 hj _) (Za (s43 w (by omega)) (Zj ?_))
    exact ⟨fun h=>(h (by simpa using h1)).elim,fun _=>rfl⟩
 ·simp only [CQ] at hh;omega
theorem Zr4 (n:Int) (es:List Ep) (h:Vld n es) (t v:Int) (w:LL) (hw:w.length≤8) (k j:Nat) (hk:k < es.length) (hj:j < es[k].s.length) (ht:es[k].s[j].t=t) (hb:∀ (i:Nat) (hi:i < j),es[k].s[i].t≠t)
  (hno:∀ (i:Nat) (hi:i < k),∀ m∈es[i].s,m.t≠t) (hv:es[k].v=v):g17 n (es.map ec) t v w=some (n,(es.set k { es[k] with s:=es[k].s.take j++es[k].s.drop (j+1) }).map ec,t,es[k].s[j].c,0,w,0):=by
 obtain ⟨r,e,_,h1⟩:=ZrP n es h t v w hw k j hk hj ht hb hno
 rw [e,h1 hv]
theorem ZrD (n:Int) (es:List Ep) (h:Vld n es) (k:Nat) (hk:k < es.length) (w:LL) (s:Int) (hm:Zcs ⟨0,es[k].v,w,s⟩) (hq:es[k].q.length < 8) :
  g12 n (es.map ec) es[k].o es[k].v w s=some (0,E0,0,4):=by
 refine ZU ?_
 rw [Zh0]
 refine Wj (Q:=fun r=>r=(0,E0,4)) ?_ fun r hr=>Zj (by rw [hr])
 rw [Zfp]
 have hlen:=h.len
 refine Za (s22 n es h) (Zb (fun h=>by cases h) fun _=>Za (s69 ⟨0,es[k].v,w,s⟩ hm) (Zb (fun h=>by cases h) fun _=>Za (s39 n es (by omega) h.ord) (Zd rfl ?_)))
 refine Zh (Yv (Zax hk h.ord) _) (Zb (fun h=>by cases h) fun _=>Zh (JT hk _) (Zb (fun h8=>?_) fun _=>Zb (fun _=>?_) fun h=>(h rfl).elim))
 ·simp only [CQ,ev,List.length_map] at h8;omega
 refine Zh (JT hk _) (Zb (fun hb=>Zj rfl) fun hb=>?_)
 exact (hb (by simp only [CQ,ev])).elim
theorem Zsd (n:Int) (es:List Ep) (h:Vld n es) (o v:Int) (hno:∀ e∈es,e.o≠o):g14 n (es.map ec) o v=some (0,E0,0,0,E0,0,17):=by
 refine ZU ?_
 have hlen:=h.len
 rw [ZkB]
 refine Za (s22 n es h) (Zb (fun h=>by cases h) fun _=>Za (s39 n es (by omega) h.ord) (Zd rfl ?_))
 exact Zh (Yv (WQ hno) _) (Zb (fun _=>Zj rfl) fun h=>(h rfl).elim)
theorem ZrA (n:Int) (es:List Ep) (h:Vld n es) (k:Nat) (hk:k < es.length) (hq:es[k].q = []) :
  g14 n (es.map ec) es[k].o es[k].v=some (0,E0,0,0,E0,0,2):=by
 refine ZU ?_
 have hlen:=h.len
 rw [ZkB]
 refine Za (s22 n es h) (Zb (fun h=>by cases h) fun _=>Za (s39 n es (by omega) h.ord) (Zd rfl ?_))
 refine Zh (Yv (Zax hk h.ord) _) (Zb (fun h=>by cases h) fun _=>Zh (JT hk _) (Zb (fun h8=>?_) fun _=>Zh (JT hk _) (Zb (fun h8=>Zj rfl) fun h8=>?_)))
 ·simp only [CQ,ev] at h8;exact (h8 rfl).elim
 ·simp only [CQ,ev,List.length_map,hq,List.length_nil] at h8;exact (h8 rfl).elim
theorem Zre (n:Int) (es:List Ep) (h:Vld n es) (o c:Int) (w:LL) (s:Int) (b:Bool) (hm:Zcs ⟨0,c,w,s⟩) (hno:∀ e∈es,e.o≠o):g42 n (es.map ec) o 0 c w s b=some (0,E0,17):=by
 refine ZU ?_
 rw [Zfp]
 have hlen:=h.len
 refine Za (s22 n es h) (Zb (fun h=>by cases h) fun _=>Za (s69 ⟨0,c,w,s⟩ hm) (Zb (fun h=>by cases h) fun _=>Za (s39 n es (by omega) h.ord) (Zd rfl ?_)))
 exact Zh (Yv (WQ hno) _) (Zb (fun _=>Zj rfl) fun h=>(h rfl).elim)
theorem ZrJ (n:Int) (es:List Ep) (h:Vld n es) (o c:Int) (w:LL) (s:Int) (hm:Zcs ⟨0,c,w,s⟩) (hno:∀ e∈es,e.o≠o):g13 n (es.map ec) o c w s=some (0,E0,17):=by
 rw [Zkr,Zre n es h o c w s false hm hno];rfl
theorem ZrF (n:Int) (es:List Ep) (h:Vld n es) (o c:Int) (w:LL) (s:Int) (hm:Zcs ⟨0,c,w,s⟩) (hno:∀ e∈es,e.o≠o):g12 n (es.map ec) o c w s=some (0,E0,0,17):=by
 rw [Zh0,Zre n es h o c w s true hm hno];rfl
theorem s9d (n:Int) (es:List Ep) (h:Vld n es) (v:Int) (k:Nat) (hk:k < es.length) (h3:0≤v) (h4:v < 32):g9 n (es.map ec) es[k].o v=some (0,E0,56):=by
 refine ZU ?_
 have hlen:=h.len
 have hok:=h.ok _ (List.getElem_mem hk)
 rw [Zow]
 refine Za (s22 n es h) (Zb (fun h=>by cases h) fun _=>Za (s37 _ hok.o0 hok.o1) (Zb (fun h=>by cases h) fun _=>Za (s38 v h3 h4) (Zb (fun h=>by cases h) fun _=>Za (s39 n es (by omega) h.ord) (Zd rfl ?_))))
 exact Zh (Yv (Zax hk h.ord) _) (Zb (fun _=>Zj rfl) fun h=>(h rfl).elim)
def Zlm (o v:Int) (es:List Ep) (k:Nat):List Ep:=es.take k++⟨o,v,[],[]⟩ :: es.drop k
theorem s9g (n:Int) (es:List Ep) (h:Vld n es) (o v:Int) (h1:0≤o) (h2:o≤1099511627775) (h3:0≤v) (h4:v < 32) (hno:∀ e∈es,e.o≠o) (hl:es.length < 32) :
  ∃ k,k≤es.length∧(∀ (j:Nat) (hj:j < es.length),j < k→es[j].o < o)∧(∀ (j:Nat) (hj:j < es.length),k≤j→o < es[j].o)∧g9 n (es.map ec) o v=some (n,(Zlm o v es k).map ec,0):=by
 have key:Ret (fun r=>∃ k,k≤es.length∧(∀ (j:Nat) (hj:j < es.length),j < k→es[j].o < o)∧(∀ (j:Nat) (hj:j < es.length),k≤j→o < es[j].o)∧r=(n,(Zlm o v es k).map ec,0)) (g9 n (es.map ec) o v):=by
  rw [Zow]
  refine Za (s22 n es h) (Zb (fun h=>by cases h) fun _=>Za (s37 o h1 h2) (Zb (fun h=>by cases h) fun _=>Za (s38 v h3 h4) (Zb (fun h=>by cases h) fun _=>Za (s39 n es (by omega) h.ord) (Zd rfl ?_))))
  refine Zh (Yv (WQ hno) _) (Zb (fun h=>by cases h) fun _=>Zb (fun hl2=>?_) fun _=>?_)
  ·simp only [CQ,List.length_map] at hl2;omega
  have hins:∀ i,i≤es.length→g41 (Wh (n,es.map en).2) (i:Int) (E0++[[AV.val (.int .i64 o),AV.val (.int .i64 v),AV.slice false 4 E0,AV.slice false 4 E0]])=some ((Zlm o v es i).map ec):=fun i hi=>by
   rw [show Wh (n,es.map en).2=es.map ec from Zjd es,Zqj]
   unfold Zra
   rw [JF (by omega),JF (by rw [List.length_map];omega),JF (by simp),JF (Jb (by simp;omega) (by decide)),Int.toNat_natCast]
   simp [Zlm,List.map_take,List.map_drop,ec]
  refine ZK (F:=fun k (_:Unit) i=>Zqt k o v n (es.map ec) 0 E0 i) es.length (fun i _=>∀ (j:Nat) (hj:j < es.length),j < i→es[j].o < o) (by omega) (fun f i _ hi hs next=>?_) () (fun j hj hj0=>by omega)
  refine Zh (ZnO ..) (Zb (fun hh=>?_) fun hh=>?_)
  ·rw [List.length_map] at hh
   simp only [CQ] at hh
   have hi':i < es.length:=by omega
   refine Zh (JT hi' _) (Zb (fun hlt=>?_) fun hge=>?_)
   ·simp only [CQ,ev] at hlt
    rw [JO hi (by omega)]
    refine next hi' () fun j hj hji=>?_
    by_cases hje:j=i
    ·subst hje;exact hlt
    ·exact hs j hj (by omega)
   ·simp only [CQ,ev] at hge
    have hne:=hno _ (List.getElem_mem hi')
    refine Za (s40 n es (by omega) h.few) (Za (hins i hi) (Zj ⟨i,hi,hs,fun j hj hij=>?_,rfl⟩))
    by_cases hje:i=j
    ·subst hje;omega
    ·have:=List.pairwise_iff_getElem.1 h.ord i j hi' hj (by omega)
     omega
  ·rw [List.length_map] at hh
   simp only [CQ] at hh
   have:i=es.length:=by omega
   subst this
   exact Za (s40 n es (by omega) h.few) (Za (hins _ hi) (Zj ⟨_,hi,hs,fun j hj hij=>by omega,rfl⟩))
 obtain ⟨r,e,k,k1,k2,k3,rfl⟩:=key
 exact ⟨k,k1,k2,k3,e⟩
end Go.Proofs.Ytigknndkmlhmfaa
end

section
namespace Go.Proofs.Ytigknndkmlhmfaa
open Go Go.AM
set_option linter.unusedSimpArgs false
set_option linter.unusedVariables false
set_option maxRecDepth 100000
theorem Znh {a b:List Ms} (h:a.Sublist b):(tk a).Sublist (tk b):=by
 unfold tk
 exact (h.map Ms.t).filter _
theorem Zec {n:Int} {es es':List Ep} (h:Vld n es) (hl:es'.length≤32) (hok:∀ e∈es',ZpY e) (ho:es'.Pairwise fun a b=>a.o < b.o) (ht:(tkE es').Sublist (tkE es)):Vld n es':=
 ⟨h.n0,h.n1,hl,hok,ho,h.nd.sublist ht,fun t htm=>h.le t (ht.subset htm)⟩
theorem KW (a b:List Ep):tkE (a++b)=tkE a++tkE b:=by
 unfold tkE;rw [List.flatMap_append]
theorem Ym (e:Ep) (es:List Ep):tkE (e::es)=tk (e.q++e.s)++tkE es:=by
 unfold tkE;rw [List.flatMap_cons]
theorem ZgM {n:Int} {es:List Ep} (h:Vld n es) {k:Nat} (hk:k < es.length):Vld n (es.take k++es.drop (k+1)):=by
 have hs:(es.take k++es.drop (k+1)).Sublist es:=by
  conv=>rhs;rw [KI hk]
  exact (List.Sublist.refl _).append (List.sublist_cons_self _ _)
 have hlen:=h.len
 refine Zec h (Nat.le_trans hs.length_le hlen) (fun e he=>h.ok e (hs.subset he)) (h.ord.sublist hs) ?_
 have h2:tkE es=tkE (es.take k)++(tk (es[k].q++es[k].s)++tkE (es.drop (k+1))):=by
  have:=congrArg tkE (KI hk)
  rw [KW,Ym] at this
  exact this
 rw [h2,KW]
 exact (List.Sublist.refl _).append (List.sublist_append_right _ _)
theorem ZmG {n:Int} {es:List Ep} (h:Vld n es) {k:Nat} (hk:k < es.length) {e:Ep} (he:ZpY e) (ho:e.o=es[k].o) (ht:(tk (e.q++e.s)).Sublist (tk (es[k].q++es[k].s))):Vld n (es.set k e):=by
 refine Zec h (by rw [List.length_set];exact h.len) (fun x hx=>?_) ?_ ?_
 ·rcases List.mem_or_eq_of_mem_set hx with hx | rfl
  ·exact h.ok x hx
  ·exact he
 ·have hm:(es.set k e).map Ep.o=es.map Ep.o:=by
   rw [List.map_set,ho]
   apply List.ext_getElem?
   intro j
   rw [List.getElem?_set]
   by_cases hj:k=j
   ·subst hj;simp [hk]
   ·simp [hj]
  have h3:=List.pairwise_map.2 h.ord
  rw [← hm] at h3
  exact List.pairwise_map.1 h3
 ·have h2:tkE es=tkE (es.take k)++(tk (es[k].q++es[k].s)++tkE (es.drop (k+1))):=by
   have:=congrArg tkE (KI hk)
   rw [KW,Ym] at this
   exact this
  rw [h2,Zf1 hk,KW,Ym]
  exact (List.Sublist.refl _).append (ht.append (List.Sublist.refl _))
theorem Zkz {n:Int} {es:List Ep} (h:Vld n es) {k j:Nat} (hk:k < es.length) (hj:j < es[k].s.length):Vld n (es.set k { es[k] with s:=es[k].s.take j++es[k].s.drop (j+1) }):=by
 have hok:=h.ok _ (List.getElem_mem hk)
 have hs:(es[k].s.take j++es[k].s.drop (j+1)).Sublist es[k].s:=by
  conv=>rhs;rw [KI hj]
  exact (List.Sublist.refl _).append (List.sublist_cons_self _ _)
 refine ZmG h hk ⟨hok.o0,hok.o1,hok.v0,hok.v1,hok.ql,Nat.le_trans hs.length_le hok.sl,hok.qm,fun m hm=>hok.sm m (hs.subset hm)⟩ rfl (Znh ((List.Sublist.refl _).append hs))
theorem Kn (d:Int) (l:List Ms):(keep d l).Sublist l:=List.filter_sublist
theorem Zka (d:Int):∀ es:List Ep,(tkE (left d es)).Sublist (tkE es)
 | [] => List.Sublist.refl _
 | e :: es => by
  have ih:=Zka d es
  by_cases hv:e.v=d
  ·have:left d (e::es)=left d es:=by unfold left;rw [List.filter_cons_of_neg (by simp [hv])]
   rw [this,Ym]
   exact ih.trans (List.sublist_append_right _ _)
  ·have:left d (e::es)=less d e::left d es:=by unfold left;rw [List.filter_cons_of_pos (by simp [hv])];rfl
   rw [this,Ym,Ym]
   exact (Znh ((Kn d e.q).append (Kn d e.s))).append ih
theorem ZmI {n:Int} {es:List Ep} (h:Vld n es) (d:Int):Vld n (left d es):=by
 have hl:=ZhL d es
 have hlen:=h.len
 refine Zec h (by omega) (fun e he=>?_) ?_ (Zka d es)
 ·obtain ⟨e0,he0,rfl⟩:=List.mem_map.1 he
  have hok:=h.ok e0 (List.mem_filter.1 he0).1
  exact ⟨hok.o0,hok.o1,hok.v0,hok.v1,Nat.le_trans (YX d e0.q) hok.ql,Nat.le_trans (YX d e0.s) hok.sl,fun m hm=>hok.qm m ((Kn d _).subset hm),fun m hm=>hok.sm m ((Kn d _).subset hm)⟩
 ·unfold left
  rw [List.pairwise_map]
  exact (h.ord.sublist List.filter_sublist).imp fun h=>h
theorem ZnH {n:Int} {es:List Ep} (h:Vld n es) {o v:Int} (h1:0≤o) (h2:o≤1099511627775) (h3:0≤v) (h4:v < 32) (hl:es.length < 32) {k:Nat} (hk:k≤es.length) (ha:∀ (j:Nat) (hj:j < es.length),j < k→es[j].o < o) (hb:∀ (j:Nat) (hj:j < es.length),k≤j→o < es[j].o):Vld n (Zlm o v es k):=by
 unfold Zlm
 refine Zec h (by simp;omega) (fun e he=>?_) ?_ ?_
 ·rcases List.mem_append.1 he with he | he
  ·exact h.ok e (List.mem_of_mem_take he)
  ·rcases List.mem_cons.1 he with rfl | he
   ·exact ⟨h1,h2,h3,h4,by simp,by simp,(fun m hm=>by cases hm),(fun m hm=>by cases hm)⟩
   ·exact h.ok e (List.mem_of_mem_drop he)
 ·rw [List.pairwise_append]
  refine ⟨h.ord.sublist (List.take_sublist _ _),List.pairwise_cons.2 ⟨fun e he=>?_,h.ord.sublist (List.drop_sublist _ _)⟩,fun a haa b hbb=>?_⟩
  ·obtain ⟨j,hj,rfl⟩:=List.getElem_of_mem he
   rw [List.getElem_drop]
   exact hb _ _ (by omega)
  ·obtain ⟨j,hj,rfl⟩:=List.getElem_of_mem haa
   rw [List.length_take] at hj
   rw [List.getElem_take]
   rcases List.mem_cons.1 hbb with rfl | hbb
   ·exact ha j (by omega) (by omega)
   ·obtain ⟨j2,hj2,rfl⟩:=List.getElem_of_mem hbb
    rw [List.length_drop] at hj2
    rw [List.getElem_drop]
    exact List.pairwise_iff_getElem.1 h.ord j (k+j2) (by omega) (by omega) (by omega)
 ·have:tkE (es.take k++⟨o,v,[],[]⟩ :: es.drop k)=tkE es:=by
   rw [KW,Ym]
   show tkE (es.take k)++(tk ([]++[])++tkE (es.drop k))=_
   rw [show tk ([]++[]) = [] from rfl,List.nil_append,← KW,List.take_append_drop]
  rw [this]
  exact List.Sublist.refl _
end Go.Proofs.Ytigknndkmlhmfaa
end

section
namespace Go.Proofs.Ytigknndkmlhmfaa
open Go Go.AM
set_option linter.unusedVariables false
set_option maxRecDepth 100000
noncomputable def F73:Fn:=⟨49,[4],[],[0],0,[],[],Try.f73,[.box [.int .i64,.slice 4,.own true 3,.own true 44,.own true 3,.bool,.bool,.bool,.bool,.bool,.bool,.bool,.bool,.bool,.bool,.bool,.bool,.bool,.bool,.bool,.bool,.bool,.bool,.bool,.bool,.bool,.bool,.bool,.bool,.bool,.bool,.bool,.bool,.bool,.bool,.bool,.bool],.agg [.int .i64,.int .i64,.int .i64,.slice 1]],[.c (.bool)],[]⟩
theorem Zrs:F73.S.Ok Try.prog 73:=F73.ok Try.func73 (by kernel_rfl) trivial
noncomputable def g73 (x0:Int) (x1:LL) (x2:LL) (x3:LL) (x4:LL) (x5:Bool) (x6:Bool) (x7:Bool) (x8:Bool) (x9:Bool) (x10:Bool) (x11:Bool) (x12:Bool) (x13:Bool) (x14:Bool) (x15:Bool) (x16:Bool) (x17:Bool) (x18:Bool) (x19:Bool) (x20:Bool) (x21:Bool) (x22:Bool) (x23:Bool) (x24:Bool) (x25:Bool) (x26:Bool) (x27:Bool) (x28:Bool) (x29:Bool) (x30:Bool) (x31:Bool) (x32:Bool) (x33:Bool) (x34:Bool) (x35:Bool) (x36:Bool) (x37:Int) (x38:Int) (x39:Int) (x40:LL):Option (Bool×Int×LL×LL×LL×LL×Bool×Bool×Bool×Bool×Bool×Bool×Bool×Bool×Bool×Bool×Bool×Bool×Bool×Bool×Bool×Bool×Bool×Bool×Bool×Bool×Bool×Bool×Bool×Bool×Bool×Bool×Bool×Bool×Bool×Bool×Bool×Bool):=F73.S.g [.i x0,.l x1,.l x2,.l x3,.l x4,.b x5,.b x6,.b x7,.b x8,.b x9,.b x10,.b x11,.b x12,.b x13,.b x14,.b x15,.b x16,.b x17,.b x18,.b x19,.b x20,.b x21,.b x22,.b x23,.b x24,.b x25,.b x26,.b x27,.b x28,.b x29,.b x30,.b x31,.b x32,.b x33,.b x34,.b x35,.b x36,.i x37,.i x38,.i x39,.l x40]
theorem Zpc (x0:Int) (x1:LL) (x2:LL) (x3:LL) (x4:LL) (x5:Bool) (x6:Bool) (x7:Bool) (x8:Bool) (x9:Bool) (x10:Bool) (x11:Bool) (x12:Bool) (x13:Bool) (x14:Bool) (x15:Bool) (x16:Bool) (x17:Bool) (x18:Bool) (x19:Bool) (x20:Bool) (x21:Bool) (x22:Bool) (x23:Bool) (x24:Bool) (x25:Bool) (x26:Bool) (x27:Bool) (x28:Bool) (x29:Bool) (x30:Bool) (x31:Bool) (x32:Bool) (x33:Bool) (x34:Bool) (x35:Bool) (x36:Bool) (x37:Int) (x38:Int) (x39:Int) (x40:LL):g73 x0 x1 x2 x3 x4 x5 x6 x7 x8 x9 x10 x11 x12 x13 x14 x15 x16 x17 x18 x19 x20 x21 x22 x23 x24 x25 x26 x27 x28 x29 x30 x31 x32 x33 x34 x35 x36 x37 x38 x39 x40 =
 (if (cop .lss (iop .sub .i64 x37 1) 0)=true then
 some (false,x0,x1,x2,x3,x4,x5,x6,x7,x8,x9,x10,x11,x12,x13,x14,x15,x16,x17,x18,x19,x20,x21,x22,x23,x24,x25,x26,x27,x28,x29,x30,x31,x32,x33,x34,x35,x36)
 else
 if (cop .geq (iop .sub .i64 x37 1) (List.length x2:Int))=true then
 some (false,x0,x1,x2,x3,x4,x5,x6,x7,x8,x9,x10,x11,x12,x13,x14,x15,x16,x17,x18,x19,x20,x21,x22,x23,x24,x25,x26,x27,x28,x29,x30,x31,x32,x33,x34,x35,x36)
 else
 Zv ((0:Int)≤(iop .sub .i64 x37 1))<|
 Zv (((iop .sub .i64 x37 1):Int) < (List.length x2:Int))<|
 ZJ x2 (iop .sub .i64 x37 1) [.int .i64] fun (r41:Int)=>
 if (cop .neq r41 x38)=true then
 some (false,x0,x1,x2,x3,x4,x5,x6,x7,x8,x9,x10,x11,x12,x13,x14,x15,x16,x17,x18,x19,x20,x21,x22,x23,x24,x25,x26,x27,x28,x29,x30,x31,x32,x33,x34,x35,x36)
 else
 Zv ((0:Int)≤(iop .sub .i64 x37 1))<|
 Zv (((iop .sub .i64 x37 1):Int) < (List.length x4:Int))<|
 ZJ x4 (iop .sub .i64 x37 1) [.int .i64] fun (r42:Int)=>
 Zv ((0:Int)≤(iop .sub .i64 x37 1))<|
 Zv (((iop .sub .i64 x37 1):Int) < (List.length x4:Int))<|
 Zv ((0:Int)≤(iop .sub .i64 x37 1))<|
 Zv (((iop .sub .i64 x37 1):Int) < (List.length x4:Int))<|
 Zv ((0:Int)≤(iop .sub .i64 x37 1))<|
 Zv (((iop .sub .i64 x37 1):Int) < (List.length (Zw x4 (Int.toNat (iop .sub .i64 x37 1)) 0 [AV.val (.int .i64 (iop .add .i64 r42 1))]):Int))<|
 ZJ (Zw x4 (Int.toNat (iop .sub .i64 x37 1)) 0 [AV.val (.int .i64 (iop .add .i64 r42 1))]) (iop .sub .i64 x37 1) [.int .i64] fun (r43:Int)=>
 some ((cop .eql r43 1),x0,x1,x2,x3,(Zw x4 (Int.toNat (iop .sub .i64 x37 1)) 0 [AV.val (.int .i64 (iop .add .i64 r42 1))]),x5,x6,x7,x8,x9,x10,x11,x12,x13,x14,x15,x16,x17,x18,x19,x20,x21,x22,x23,x24,x25,x26,x27,x28,x29,x30,x31,x32,x33,x34,x35,x36)):=by kernel_rfl
noncomputable def F61:Fn:=⟨38,[6],[(2,[(0,.box [.int .i64,.slice 4,.own true 3,.own true 44,.own true 3,.bool,.bool,.bool,.bool,.bool,.bool,.bool,.bool,.bool,.bool,.bool,.bool,.bool,.bool,.bool,.bool,.bool,.bool,.bool,.bool,.bool,.bool,.bool,.bool,.bool,.bool,.bool,.bool,.bool,.bool,.bool,.bool]),(1,.c (.slice 4)),(2,.c (.int .i64)),(7,.c (.int .i64))])],[0],0,[],[],Try.f61,[.box [.int .i64,.slice 4,.own true 3,.own true 44,.own true 3,.bool,.bool,.bool,.bool,.bool,.bool,.bool,.bool,.bool,.bool,.bool,.bool,.bool,.bool,.bool,.bool,.bool,.bool,.bool,.bool,.bool,.bool,.bool,.bool,.bool,.bool,.bool,.bool,.bool,.bool,.bool,.bool],.c (.slice 4),.c (.int .i64)],[.c (.bool)],[(73,F73.S)]⟩
theorem ZrY:F61.S.Ok Try.prog 61:=F61.ok Try.func61 (by kernel_rfl) ⟨Zrs,trivial⟩
noncomputable def g61 (x0:Int) (x1:LL) (x2:LL) (x3:LL) (x4:LL) (x5:Bool) (x6:Bool) (x7:Bool) (x8:Bool) (x9:Bool) (x10:Bool) (x11:Bool) (x12:Bool) (x13:Bool) (x14:Bool) (x15:Bool) (x16:Bool) (x17:Bool) (x18:Bool) (x19:Bool) (x20:Bool) (x21:Bool) (x22:Bool) (x23:Bool) (x24:Bool) (x25:Bool) (x26:Bool) (x27:Bool) (x28:Bool) (x29:Bool) (x30:Bool) (x31:Bool) (x32:Bool) (x33:Bool) (x34:Bool) (x35:Bool) (x36:Bool) (x37:LL) (x38:Int):Option (Bool×Int×LL×LL×LL×LL×Bool×Bool×Bool×Bool×Bool×Bool×Bool×Bool×Bool×Bool×Bool×Bool×Bool×Bool×Bool×Bool×Bool×Bool×Bool×Bool×Bool×Bool×Bool×Bool×Bool×Bool×Bool×Bool×Bool×Bool×Bool×Bool):=F61.S.g [.i x0,.l x1,.l x2,.l x3,.l x4,.b x5,.b x6,.b x7,.b x8,.b x9,.b x10,.b x11,.b x12,.b x13,.b x14,.b x15,.b x16,.b x17,.b x18,.b x19,.b x20,.b x21,.b x22,.b x23,.b x24,.b x25,.b x26,.b x27,.b x28,.b x29,.b x30,.b x31,.b x32,.b x33,.b x34,.b x35,.b x36,.l x37,.i x38]
noncomputable def Zik (k:Nat) (x0:Int) (x1:LL) (x2:LL) (x3:LL) (x4:LL) (x5:Bool) (x6:Bool) (x7:Bool) (x8:Bool) (x9:Bool) (x10:Bool) (x11:Bool) (x12:Bool) (x13:Bool) (x14:Bool) (x15:Bool) (x16:Bool) (x17:Bool) (x18:Bool) (x19:Bool) (x20:Bool) (x21:Bool) (x22:Bool) (x23:Bool) (x24:Bool) (x25:Bool) (x26:Bool) (x27:Bool) (x28:Bool) (x29:Bool) (x30:Bool) (x31:Bool) (x32:Bool) (x33:Bool) (x34:Bool) (x35:Bool) (x36:Bool) (x37:LL) (x38:Int) (x39:Int):Option (Bool×Int×LL×LL×LL×LL×Bool×Bool×Bool×Bool×Bool×Bool×Bool×Bool×Bool×Bool×Bool×Bool×Bool×Bool×Bool×Bool×Bool×Bool×Bool×Bool×Bool×Bool×Bool×Bool×Bool×Bool×Bool×Bool×Bool×Bool×Bool×Bool):=F61.lp [0] 0 r0 k [.i x0,.l x1,.l x2,.l x3,.l x4,.b x5,.b x6,.b x7,.b x8,.b x9,.b x10,.b x11,.b x12,.b x13,.b x14,.b x15,.b x16,.b x17,.b x18,.b x19,.b x20,.b x21,.b x22,.b x23,.b x24,.b x25,.b x26,.b x27,.b x28,.b x29,.b x30,.b x31,.b x32,.b x33,.b x34,.b x35,.b x36,.l x37,.i x38,.i x39]
theorem Zmn (k:Nat) (x0:Int) (x1:LL) (x2:LL) (x3:LL) (x4:LL) (x5:Bool) (x6:Bool) (x7:Bool) (x8:Bool) (x9:Bool) (x10:Bool) (x11:Bool) (x12:Bool) (x13:Bool) (x14:Bool) (x15:Bool) (x16:Bool) (x17:Bool) (x18:Bool) (x19:Bool) (x20:Bool) (x21:Bool) (x22:Bool) (x23:Bool) (x24:Bool) (x25:Bool) (x26:Bool) (x27:Bool) (x28:Bool) (x29:Bool) (x30:Bool) (x31:Bool) (x32:Bool) (x33:Bool) (x34:Bool) (x35:Bool) (x36:Bool) (x37:LL) (x38:Int) (x39:Int):Zik (k+1) x0 x1 x2 x3 x4 x5 x6 x7 x8 x9 x10 x11 x12 x13 x14 x15 x16 x17 x18 x19 x20 x21 x22 x23 x24 x25 x26 x27 x28 x29 x30 x31 x32 x33 x34 x35 x36 x37 x38 x39 =
 (if (cop .lss x39 (List.length x37:Int))=true then
 ZJ x37 x39 [.int .i64,.int .i64,.int .i64,.slice 1] fun (r40:Int×Int×Int×LL)=>
 (g73 x0 x1 x2 x3 x4 x5 x6 x7 x8 x9 x10 x11 x12 x13 x14 x15 x16 x17 x18 x19 x20 x21 x22 x23 x24 x25 x26 x27 x28 x29 x30 x31 x32 x33 x34 x35 x36 r40.1 r40.2.1 r40.2.2.1 r40.2.2.2).bind fun (r44:Bool×Int×LL×LL×LL×LL×Bool×Bool×Bool×Bool×Bool×Bool×Bool×Bool×Bool×Bool×Bool×Bool×Bool×Bool×Bool×Bool×Bool×Bool×Bool×Bool×Bool×Bool×Bool×Bool×Bool×Bool×Bool×Bool×Bool×Bool×Bool×Bool)=>
 if (!r44.1)=true then
 some (false,r44.2.1,r44.2.2.1,r44.2.2.2.1,r44.2.2.2.2.1,r44.2.2.2.2.2.1,r44.2.2.2.2.2.2.1,r44.2.2.2.2.2.2.2.1,r44.2.2.2.2.2.2.2.2.1,r44.2.2.2.2.2.2.2.2.2.1,r44.2.2.2.2.2.2.2.2.2.2.1,r44.2.2.2.2.2.2.2.2.2.2.2.1,r44.2.2.2.2.2.2.2.2.2.2.2.2.1,r44.2.2.2.2.2.2.2.2.2.2.2.2.2.1,r44.2.2.2.2.2.2.2.2.2.2.2.2.2.2.1,r44.2.2.2.2.2.2.2.2.2.2.2.2.2.2.2.1,r44.2.2.2.2.2.2.2.2.2.2.2.2.2.2.2.2.1,r44.2.2.2.2.2.2.2.2.2.2.2.2.2.2.2.2.2.1,r44.2.2.2.2.2.2.2.2.2.2.2.2.2.2.2.2.2.2.1,r44.2.2.2.2.2.2.2.2.2.2.2.2.2.2.2.2.2.2.2.1,r44.2.2.2.2.2.2.2.2.2.2.2.2.2.2.2.2.2.2.2.2.1,r44.2.2.2.2.2.2.2.2.2.2.2.2.2.2.2.2.2.2.2.2.2.1,r44.2.2.2.2.2.2.2.2.2.2.2.2.2.2.2.2.2.2.2.2.2.2.1,r44.2.2.2.2.2.2.2.2.2.2.2.2.2.2.2.2.2.2.2.2.2.2.2.1,r44.2.2.2.2.2.2.2.2.2.2.2.2.2.2.2.2.2.2.2.2.2.2.2.2.1,r44.2.2.2.2.2.2.2.2.2.2.2.2.2.2.2.2.2.2.2.2.2.2.2.2.2.1,r44.2.2.2.2.2.2.2.2.2.2.2.2.2.2.2.2.2.2.2.2.2.2.2.2.2.2.1,r44.2.2.2.2.2.2.2.2.2.2.2.2.2.2.2.2.2.2.2.2.2.2.2.2.2.2.2.1,r44.2.2.2.2.2.2.2.2.2.2.2.2.2.2.2.2.2.2.2.2.2.2.2.2.2.2.2.2.1,r44.2.2.2.2.2.2.2.2.2.2.2.2.2.2.2.2.2.2.2.2.2.2.2.2.2.2.2.2.2.1,r44.2.2.2.2.2.2.2.2.2.2.2.2.2.2.2.2.2.2.2.2.2.2.2.2.2.2.2.2.2.2.1,r44.2.2.2.2.2.2.2.2.2.2.2.2.2.2.2.2.2.2.2.2.2.2.2.2.2.2.2.2.2.2.2.1,r44.2.2.2.2.2.2.2.2.2.2.2.2.2.2.2.2.2.2.2.2.2.2.2.2.2.2.2.2.2.2.2.2.1,r44.2.2.2.2.2.2.2.2.2.2.2.2.2.2.2.2.2.2.2.2.2.2.2.2.2.2.2.2.2.2.2.2.2.1,r44.2.2.2.2.2.2.2.2.2.2.2.2.2.2.2.2.2.2.2.2.2.2.2.2.2.2.2.2.2.2.2.2.2.2.1,r44.2.2.2.2.2.2.2.2.2.2.2.2.2.2.2.2.2.2.2.2.2.2.2.2.2.2.2.2.2.2.2.2.2.2.2.1,r44.2.2.2.2.2.2.2.2.2.2.2.2.2.2.2.2.2.2.2.2.2.2.2.2.2.2.2.2.2.2.2.2.2.2.2.2.1,r44.2.2.2.2.2.2.2.2.2.2.2.2.2.2.2.2.2.2.2.2.2.2.2.2.2.2.2.2.2.2.2.2.2.2.2.2.2)
 else
 ZJ x37 x39 [.int .i64,.int .i64,.int .i64,.slice 1] fun (r82:Int×Int×Int×LL)=>
 if (cop .neq r82.2.2.1 16)=true then
 some (false,r44.2.1,r44.2.2.1,r44.2.2.2.1,r44.2.2.2.2.1,r44.2.2.2.2.2.1,r44.2.2.2.2.2.2.1,r44.2.2.2.2.2.2.2.1,r44.2.2.2.2.2.2.2.2.1,r44.2.2.2.2.2.2.2.2.2.1,r44.2.2.2.2.2.2.2.2.2.2.1,r44.2.2.2.2.2.2.2.2.2.2.2.1,r44.2.2.2.2.2.2.2.2.2.2.2.2.1,r44.2.2.2.2.2.2.2.2.2.2.2.2.2.1,r44.2.2.2.2.2.2.2.2.2.2.2.2.2.2.1,r44.2.2.2.2.2.2.2.2.2.2.2.2.2.2.2.1,r44.2.2.2.2.2.2.2.2.2.2.2.2.2.2.2.2.1,r44.2.2.2.2.2.2.2.2.2.2.2.2.2.2.2.2.2.1,r44.2.2.2.2.2.2.2.2.2.2.2.2.2.2.2.2.2.2.1,r44.2.2.2.2.2.2.2.2.2.2.2.2.2.2.2.2.2.2.2.1,r44.2.2.2.2.2.2.2.2.2.2.2.2.2.2.2.2.2.2.2.2.1,r44.2.2.2.2.2.2.2.2.2.2.2.2.2.2.2.2.2.2.2.2.2.1,r44.2.2.2.2.2.2.2.2.2.2.2.2.2.2.2.2.2.2.2.2.2.2.1,r44.2.2.2.2.2.2.2.2.2.2.2.2.2.2.2.2.2.2.2.2.2.2.2.1,r44.2.2.2.2.2.2.2.2.2.2.2.2.2.2.2.2.2.2.2.2.2.2.2.2.1,r44.2.2.2.2.2.2.2.2.2.2.2.2.2.2.2.2.2.2.2.2.2.2.2.2.2.1,r44.2.2.2.2.2.2.2.2.2.2.2.2.2.2.2.2.2.2.2.2.2.2.2.2.2.2.1,r44.2.2.2.2.2.2.2.2.2.2.2.2.2.2.2.2.2.2.2.2.2.2.2.2.2.2.2.1,r44.2.2.2.2.2.2.2.2.2.2.2.2.2.2.2.2.2.2.2.2.2.2.2.2.2.2.2.2.1,r44.2.2.2.2.2.2.2.2.2.2.2.2.2.2.2.2.2.2.2.2.2.2.2.2.2.2.2.2.2.1,r44.2.2.2.2.2.2.2.2.2.2.2.2.2.2.2.2.2.2.2.2.2.2.2.2.2.2.2.2.2.2.1,r44.2.2.2.2.2.2.2.2.2.2.2.2.2.2.2.2.2.2.2.2.2.2.2.2.2.2.2.2.2.2.2.1,r44.2.2.2.2.2.2.2.2.2.2.2.2.2.2.2.2.2.2.2.2.2.2.2.2.2.2.2.2.2.2.2.2.1,r44.2.2.2.2.2.2.2.2.2.2.2.2.2.2.2.2.2.2.2.2.2.2.2.2.2.2.2.2.2.2.2.2.2.1,r44.2.2.2.2.2.2.2.2.2.2.2.2.2.2.2.2.2.2.2.2.2.2.2.2.2.2.2.2.2.2.2.2.2.2.1,r44.2.2.2.2.2.2.2.2.2.2.2.2.2.2.2.2.2.2.2.2.2.2.2.2.2.2.2.2.2.2.2.2.2.2.2.1,r44.2.2.2.2.2.2.2.2.2.2.2.2.2.2.2.2.2.2.2.2.2.2.2.2.2.2.2.2.2.2.2.2.2.2.2.2.1,r44.2.2.2.2.2.2.2.2.2.2.2.2.2.2.2.2.2.2.2.2.2.2.2.2.2.2.2.2.2.2.2.2.2.2.2.2.2)
 else
 ZJ x37 x39 [.int .i64,.int .i64,.int .i64,.slice 1] fun (r86:Int×Int×Int×LL)=>
 if (cop .eql r86.2.1 x38)=true then
 some (false,r44.2.1,r44.2.2.1,r44.2.2.2.1,r44.2.2.2.2.1,r44.2.2.2.2.2.1,r44.2.2.2.2.2.2.1,r44.2.2.2.2.2.2.2.1,r44.2.2.2.2.2.2.2.2.1,r44.2.2.2.2.2.2.2.2.2.1,r44.2.2.2.2.2.2.2.2.2.2.1,r44.2.2.2.2.2.2.2.2.2.2.2.1,r44.2.2.2.2.2.2.2.2.2.2.2.2.1,r44.2.2.2.2.2.2.2.2.2.2.2.2.2.1,r44.2.2.2.2.2.2.2.2.2.2.2.2.2.2.1,r44.2.2.2.2.2.2.2.2.2.2.2.2.2.2.2.1,r44.2.2.2.2.2.2.2.2.2.2.2.2.2.2.2.2.1,r44.2.2.2.2.2.2.2.2.2.2.2.2.2.2.2.2.2.1,r44.2.2.2.2.2.2.2.2.2.2.2.2.2.2.2.2.2.2.1,r44.2.2.2.2.2.2.2.2.2.2.2.2.2.2.2.2.2.2.2.1,r44.2.2.2.2.2.2.2.2.2.2.2.2.2.2.2.2.2.2.2.2.1,r44.2.2.2.2.2.2.2.2.2.2.2.2.2.2.2.2.2.2.2.2.2.1,r44.2.2.2.2.2.2.2.2.2.2.2.2.2.2.2.2.2.2.2.2.2.2.1,r44.2.2.2.2.2.2.2.2.2.2.2.2.2.2.2.2.2.2.2.2.2.2.2.1,r44.2.2.2.2.2.2.2.2.2.2.2.2.2.2.2.2.2.2.2.2.2.2.2.2.1,r44.2.2.2.2.2.2.2.2.2.2.2.2.2.2.2.2.2.2.2.2.2.2.2.2.2.1,r44.2.2.2.2.2.2.2.2.2.2.2.2.2.2.2.2.2.2.2.2.2.2.2.2.2.2.1,r44.2.2.2.2.2.2.2.2.2.2.2.2.2.2.2.2.2.2.2.2.2.2.2.2.2.2.2.1,r44.2.2.2.2.2.2.2.2.2.2.2.2.2.2.2.2.2.2.2.2.2.2.2.2.2.2.2.2.1,r44.2.2.2.2.2.2.2.2.2.2.2.2.2.2.2.2.2.2.2.2.2.2.2.2.2.2.2.2.2.1,r44.2.2.2.2.2.2.2.2.2.2.2.2.2.2.2.2.2.2.2.2.2.2.2.2.2.2.2.2.2.2.1,r44.2.2.2.2.2.2.2.2.2.2.2.2.2.2.2.2.2.2.2.2.2.2.2.2.2.2.2.2.2.2.2.1,r44.2.2.2.2.2.2.2.2.2.2.2.2.2.2.2.2.2.2.2.2.2.2.2.2.2.2.2.2.2.2.2.2.1,r44.2.2.2.2.2.2.2.2.2.2.2.2.2.2.2.2.2.2.2.2.2.2.2.2.2.2.2.2.2.2.2.2.2.1,r44.2.2.2.2.2.2.2.2.2.2.2.2.2.2.2.2.2.2.2.2.2.2.2.2.2.2.2.2.2.2.2.2.2.2.1,r44.2.2.2.2.2.2.2.2.2.2.2.2.2.2.2.2.2.2.2.2.2.2.2.2.2.2.2.2.2.2.2.2.2.2.2.1,r44.2.2.2.2.2.2.2.2.2.2.2.2.2.2.2.2.2.2.2.2.2.2.2.2.2.2.2.2.2.2.2.2.2.2.2.2.1,r44.2.2.2.2.2.2.2.2.2.2.2.2.2.2.2.2.2.2.2.2.2.2.2.2.2.2.2.2.2.2.2.2.2.2.2.2.2)
 else
 Zik k r44.2.1 r44.2.2.1 r44.2.2.2.1 r44.2.2.2.2.1 r44.2.2.2.2.2.1 r44.2.2.2.2.2.2.1 r44.2.2.2.2.2.2.2.1 r44.2.2.2.2.2.2.2.2.1 r44.2.2.2.2.2.2.2.2.2.1 r44.2.2.2.2.2.2.2.2.2.2.1 r44.2.2.2.2.2.2.2.2.2.2.2.1 r44.2.2.2.2.2.2.2.2.2.2.2.2.1 r44.2.2.2.2.2.2.2.2.2.2.2.2.2.1 r44.2.2.2.2.2.2.2.2.2.2.2.2.2.2.1 r44.2.2.2.2.2.2.2.2.2.2.2.2.2.2.2.1 r44.2.2.2.2.2.2.2.2.2.2.2.2.2.2.2.2.1 r44.2.2.2.2.2.2.2.2.2.2.2.2.2.2.2.2.2.1 r44.2.2.2.2.2.2.2.2.2.2.2.2.2.2.2.2.2.2.1 r44.2.2.2.2.2.2.2.2.2.2.2.2.2.2.2.2.2.2.2.1 r44.2.2.2.2.2.2.2.2.2.2.2.2.2.2.2.2.2.2.2.2.1 r44.2.2.2.2.2.2.2.2.2.2.2.2.2.2.2.2.2.2.2.2.2.1 r44.2.2.2.2.2.2.2.2.2.2.2.2.2.2.2.2.2.2.2.2.2.2.1 r44.2.2.2.2.2.2.2.2.2.2.2.2.2.2.2.2.2.2.2.2.2.2.2.1 r44.2.2.2.2.2.2.2.2.2.2.2.2.2.2.2.2.2.2.2.2.2.2.2.2.1 r44.2.2.2.2.2.2.2.2.2.2.2.2.2.2.2.2.2.2.2.2.2.2.2.2.2.1 r44.2.2.2.2.2.2.2.2.2.2.2.2.2.2.2.2.2.2.2.2.2.2.2.2.2.2.1 r44.2.2.2.2.2.2.2.2.2.2.2.2.2.2.2.2.2.2.2.2.2.2.2.2.2.2.2.1 r44.2.2.2.2.2.2.2.2.2.2.2.2.2.2.2.2.2.2.2.2.2.2.2.2.2.2.2.2.1 r44.2.2.2.2.2.2.2.2.2.2.2.2.2.2.2.2.2.2.2.2.2.2.2.2.2.2.2.2.2.1 r44.2.2.2.2.2.2.2.2.2.2.2.2.2.2.2.2.2.2.2.2.2.2.2.2.2.2.2.2.2.2.1 r44.2.2.2.2.2.2.2.2.2.2.2.2.2.2.2.2.2.2.2.2.2.2.2.2.2.2.2.2.2.2.2.1 r44.2.2.2.2.2.2.2.2.2.2.2.2.2.2.2.2.2.2.2.2.2.2.2.2.2.2.2.2.2.2.2.2.1 r44.2.2.2.2.2.2.2.2.2.2.2.2.2.2.2.2.2.2.2.2.2.2.2.2.2.2.2.2.2.2.2.2.2.1 r44.2.2.2.2.2.2.2.2.2.2.2.2.2.2.2.2.2.2.2.2.2.2.2.2.2.2.2.2.2.2.2.2.2.2.1 r44.2.2.2.2.2.2.2.2.2.2.2.2.2.2.2.2.2.2.2.2.2.2.2.2.2.2.2.2.2.2.2.2.2.2.2.1 r44.2.2.2.2.2.2.2.2.2.2.2.2.2.2.2.2.2.2.2.2.2.2.2.2.2.2.2.2.2.2.2.2.2.2.2.2.1 r44.2.2.2.2.2.2.2.2.2.2.2.2.2.2.2.2.2.2.2.2.2.2.2.2.2.2.2.2.2.2.2.2.2.2.2.2.2 x37 x38 (iop .add .i64 x39 1)
 else
 some (true,x0,x1,x2,x3,x4,x5,x6,x7,x8,x9,x10,x11,x12,x13,x14,x15,x16,x17,x18,x19,x20,x21,x22,x23,x24,x25,x26,x27,x28,x29,x30,x31,x32,x33,x34,x35,x36)):=by kernel_rfl
theorem Zqg (x0:Int) (x1:LL) (x2:LL) (x3:LL) (x4:LL) (x5:Bool) (x6:Bool) (x7:Bool) (x8:Bool) (x9:Bool) (x10:Bool) (x11:Bool) (x12:Bool) (x13:Bool) (x14:Bool) (x15:Bool) (x16:Bool) (x17:Bool) (x18:Bool) (x19:Bool) (x20:Bool) (x21:Bool) (x22:Bool) (x23:Bool) (x24:Bool) (x25:Bool) (x26:Bool) (x27:Bool) (x28:Bool) (x29:Bool) (x30:Bool) (x31:Bool) (x32:Bool) (x33:Bool) (x34:Bool) (x35:Bool) (x36:Bool) (x37:LL) (x38:Int):g61 x0 x1 x2 x3 x4 x5 x6 x7 x8 x9 x10 x11 x12 x13 x14 x15 x16 x17 x18 x19 x20 x21 x22 x23 x24 x25 x26 x27 x28 x29 x30 x31 x32 x33 x34 x35 x36 x37 x38 =
 (Zik YS x0 x1 x2 x3 x4 x5 x6 x7 x8 x9 x10 x11 x12 x13 x14 x15 x16 x17 x18 x19 x20 x21 x22 x23 x24 x25 x26 x27 x28 x29 x30 x31 x32 x33 x34 x35 x36 x37 x38 0):=by kernel_rfl
noncomputable def F74:Fn:=⟨43,[4,5],[(2,[(0,.box [.int .i64,.slice 4,.own true 3,.own true 44,.own true 3,.bool,.bool,.bool,.bool,.bool,.bool,.bool,.bool,.bool,.bool,.bool,.bool,.bool,.bool,.bool,.bool,.bool,.bool,.bool,.bool,.bool,.bool,.bool,.bool,.bool,.bool,.bool,.bool,.bool,.bool,.bool,.bool]),(1,.c (.int .i64)),(6,.c (.int .i64))])],[0],0,[],[],Try.f74,[.box [.int .i64,.slice 4,.own true 3,.own true 44,.own true 3,.bool,.bool,.bool,.bool,.bool,.bool,.bool,.bool,.bool,.bool,.bool,.bool,.bool,.bool,.bool,.bool,.bool,.bool,.bool,.bool,.bool,.bool,.bool,.bool,.bool,.bool,.bool,.bool,.bool,.bool,.bool,.bool],.c (.int .i64)],[.c (.int .i64),.c (.int .i64)],[]⟩
theorem Zri:F74.S.Ok Try.prog 74:=F74.ok Try.func74 (by kernel_rfl) trivial
noncomputable def g74 (x0:Int) (x1:LL) (x2:LL) (x3:LL) (x4:LL) (x5:Bool) (x6:Bool) (x7:Bool) (x8:Bool) (x9:Bool) (x10:Bool) (x11:Bool) (x12:Bool) (x13:Bool) (x14:Bool) (x15:Bool) (x16:Bool) (x17:Bool) (x18:Bool) (x19:Bool) (x20:Bool) (x21:Bool) (x22:Bool) (x23:Bool) (x24:Bool) (x25:Bool) (x26:Bool) (x27:Bool) (x28:Bool) (x29:Bool) (x30:Bool) (x31:Bool) (x32:Bool) (x33:Bool) (x34:Bool) (x35:Bool) (x36:Bool) (x37:Int):Option (Int×Int×Int×LL×LL×LL×LL×Bool×Bool×Bool×Bool×Bool×Bool×Bool×Bool×Bool×Bool×Bool×Bool×Bool×Bool×Bool×Bool×Bool×Bool×Bool×Bool×Bool×Bool×Bool×Bool×Bool×Bool×Bool×Bool×Bool×Bool×Bool×Bool):=F74.S.g [.i x0,.l x1,.l x2,.l x3,.l x4,.b x5,.b x6,.b x7,.b x8,.b x9,.b x10,.b x11,.b x12,.b x13,.b x14,.b x15,.b x16,.b x17,.b x18,.b x19,.b x20,.b x21,.b x22,.b x23,.b x24,.b x25,.b x26,.b x27,.b x28,.b x29,.b x30,.b x31,.b x32,.b x33,.b x34,.b x35,.b x36,.i x37]
noncomputable def ZkR (k:Nat) (x0:Int) (x1:LL) (x2:LL) (x3:LL) (x4:LL) (x5:Bool) (x6:Bool) (x7:Bool) (x8:Bool) (x9:Bool) (x10:Bool) (x11:Bool) (x12:Bool) (x13:Bool) (x14:Bool) (x15:Bool) (x16:Bool) (x17:Bool) (x18:Bool) (x19:Bool) (x20:Bool) (x21:Bool) (x22:Bool) (x23:Bool) (x24:Bool) (x25:Bool) (x26:Bool) (x27:Bool) (x28:Bool) (x29:Bool) (x30:Bool) (x31:Bool) (x32:Bool) (x33:Bool) (x34:Bool) (x35:Bool) (x36:Bool) (x37:Int) (x38:Int):Option (Int×Int×Int×LL×LL×LL×LL×Bool×Bool×Bool×Bool×Bool×Bool×Bool×Bool×Bool×Bool×Bool×Bool×Bool×Bool×Bool×Bool×Bool×Bool×Bool×Bool×Bool×Bool×Bool×Bool×Bool×Bool×Bool×Bool×Bool×Bool×Bool×Bool):=F74.lp [0] 0 r0 k [.i x0,.l x1,.l x2,.l x3,.l x4,.b x5,.b x6,.b x7,.b x8,.b x9,.b x10,.b x11,.b x12,.b x13,.b x14,.b x15,.b x16,.b x17,.b x18,.b x19,.b x20,.b x21,.b x22,.b x23,.b x24,.b x25,.b x26,.b x27,.b x28,.b x29,.b x30,.b x31,.b x32,.b x33,.b x34,.b x35,.b x36,.i x37,.i x38]
theorem Zh6 (k:Nat) (x0:Int) (x1:LL) (x2:LL) (x3:LL) (x4:LL) (x5:Bool) (x6:Bool) (x7:Bool) (x8:Bool) (x9:Bool) (x10:Bool) (x11:Bool) (x12:Bool) (x13:Bool) (x14:Bool) (x15:Bool) (x16:Bool) (x17:Bool) (x18:Bool) (x19:Bool) (x20:Bool) (x21:Bool) (x22:Bool) (x23:Bool) (x24:Bool) (x25:Bool) (x26:Bool) (x27:Bool) (x28:Bool) (x29:Bool) (x30:Bool) (x31:Bool) (x32:Bool) (x33:Bool) (x34:Bool) (x35:Bool) (x36:Bool) (x37:Int) (x38:Int):ZkR (k+1) x0 x1 x2 x3 x4 x5 x6 x7 x8 x9 x10 x11 x12 x13 x14 x15 x16 x17 x18 x19 x20 x21 x22 x23 x24 x25 x26 x27 x28 x29 x30 x31 x32 x33 x34 x35 x36 x37 x38 =
 (if (cop .lss x38 (List.length x1:Int))=true then
 ZJ x1 x38 [.int .i64,.int .i64,.slice 4,.slice 4] fun (r39:Int×Int×LL×LL)=>
 if (cop .eql r39.1 x37)=true then
 if (cop .gtr (List.length r39.2.2.2:Int) 0)=true then
 ZJ r39.2.2.2 0 [.int .i64,.int .i64,.slice 1,.int .i64] fun (r43:Int×Int×LL×Int)=>
 some (r39.2.1,r43.1,x0,x1,x2,x3,x4,x5,x6,x7,x8,x9,x10,x11,x12,x13,x14,x15,x16,x17,x18,x19,x20,x21,x22,x23,x24,x25,x26,x27,x28,x29,x30,x31,x32,x33,x34,x35,x36)
 else
 some (r39.2.1,0,x0,x1,x2,x3,x4,x5,x6,x7,x8,x9,x10,x11,x12,x13,x14,x15,x16,x17,x18,x19,x20,x21,x22,x23,x24,x25,x26,x27,x28,x29,x30,x31,x32,x33,x34,x35,x36)
 else
 ZkR k x0 x1 x2 x3 x4 x5 x6 x7 x8 x9 x10 x11 x12 x13 x14 x15 x16 x17 x18 x19 x20 x21 x22 x23 x24 x25 x26 x27 x28 x29 x30 x31 x32 x33 x34 x35 x36 x37 (iop .add .i64 x38 1)
 else
 some ((-1),0,x0,x1,x2,x3,x4,x5,x6,x7,x8,x9,x10,x11,x12,x13,x14,x15,x16,x17,x18,x19,x20,x21,x22,x23,x24,x25,x26,x27,x28,x29,x30,x31,x32,x33,x34,x35,x36)):=by kernel_rfl
theorem Zm4 (x0:Int) (x1:LL) (x2:LL) (x3:LL) (x4:LL) (x5:Bool) (x6:Bool) (x7:Bool) (x8:Bool) (x9:Bool) (x10:Bool) (x11:Bool) (x12:Bool) (x13:Bool) (x14:Bool) (x15:Bool) (x16:Bool) (x17:Bool) (x18:Bool) (x19:Bool) (x20:Bool) (x21:Bool) (x22:Bool) (x23:Bool) (x24:Bool) (x25:Bool) (x26:Bool) (x27:Bool) (x28:Bool) (x29:Bool) (x30:Bool) (x31:Bool) (x32:Bool) (x33:Bool) (x34:Bool) (x35:Bool) (x36:Bool) (x37:Int):g74 x0 x1 x2 x3 x4 x5 x6 x7 x8 x9 x10 x11 x12 x13 x14 x15 x16 x17 x18 x19 x20 x21 x22 x23 x24 x25 x26 x27 x28 x29 x30 x31 x32 x33 x34 x35 x36 x37 =
 (ZkR YS x0 x1 x2 x3 x4 x5 x6 x7 x8 x9 x10 x11 x12 x13 x14 x15 x16 x17 x18 x19 x20 x21 x22 x23 x24 x25 x26 x27 x28 x29 x30 x31 x32 x33 x34 x35 x36 x37 0):=by kernel_rfl
noncomputable def F62:Fn:=⟨70,[8],[],[0],0,[],[],Try.f62,[.box [.int .i64,.slice 4,.own true 3,.own true 44,.own true 3,.bool,.bool,.bool,.bool,.bool,.bool,.bool,.bool,.bool,.bool,.bool,.bool,.bool,.bool,.bool,.bool,.bool,.bool,.bool,.bool,.bool,.bool,.bool,.bool,.bool,.bool,.bool,.bool,.bool,.bool,.bool,.bool],.c (.int .i64),.c (.int .i64),.c (.int .u64)],[.c (.bool)],[(12,F12.S)]⟩
theorem Zr7:F62.S.Ok Try.prog 62:=F62.ok Try.func62 (by kernel_rfl) ⟨Zrf,trivial⟩
noncomputable def g62 (x0:Int) (x1:LL) (x2:LL) (x3:LL) (x4:LL) (x5:Bool) (x6:Bool) (x7:Bool) (x8:Bool) (x9:Bool) (x10:Bool) (x11:Bool) (x12:Bool) (x13:Bool) (x14:Bool) (x15:Bool) (x16:Bool) (x17:Bool) (x18:Bool) (x19:Bool) (x20:Bool) (x21:Bool) (x22:Bool) (x23:Bool) (x24:Bool) (x25:Bool) (x26:Bool) (x27:Bool) (x28:Bool) (x29:Bool) (x30:Bool) (x31:Bool) (x32:Bool) (x33:Bool) (x34:Bool) (x35:Bool) (x36:Bool) (x37:Int) (x38:Int) (x39:Int):Option (Bool×Int×LL×LL×LL×LL×Bool×Bool×Bool×Bool×Bool×Bool×Bool×Bool×Bool×Bool×Bool×Bool×Bool×Bool×Bool×Bool×Bool×Bool×Bool×Bool×Bool×Bool×Bool×Bool×Bool×Bool×Bool×Bool×Bool×Bool×Bool×Bool):=F62.S.g [.i x0,.l x1,.l x2,.l x3,.l x4,.b x5,.b x6,.b x7,.b x8,.b x9,.b x10,.b x11,.b x12,.b x13,.b x14,.b x15,.b x16,.b x17,.b x18,.b x19,.b x20,.b x21,.b x22,.b x23,.b x24,.b x25,.b x26,.b x27,.b x28,.b x29,.b x30,.b x31,.b x32,.b x33,.b x34,.b x35,.b x36,.i x37,.i x38,.i x39]
theorem Znd (x0:Int) (x1:LL) (x2:LL) (x3:LL) (x4:LL) (x5:Bool) (x6:Bool) (x7:Bool) (x8:Bool) (x9:Bool) (x10:Bool) (x11:Bool) (x12:Bool) (x13:Bool) (x14:Bool) (x15:Bool) (x16:Bool) (x17:Bool) (x18:Bool) (x19:Bool) (x20:Bool) (x21:Bool) (x22:Bool) (x23:Bool) (x24:Bool) (x25:Bool) (x26:Bool) (x27:Bool) (x28:Bool) (x29:Bool) (x30:Bool) (x31:Bool) (x32:Bool) (x33:Bool) (x34:Bool) (x35:Bool) (x36:Bool) (x37:Int) (x38:Int) (x39:Int):g62 x0 x1 x2 x3 x4 x5 x6 x7 x8 x9 x10 x11 x12 x13 x14 x15 x16 x17 x18 x19 x20 x21 x22 x23 x24 x25 x26 x27 x28 x29 x30 x31 x32 x33 x34 x35 x36 x37 x38 x39 =
 ((g12 x0 x1 x37 x38 (E0++[[AV.val (.int .u64 x39)]]) (-1)).bind fun (r40:Int×LL×Int×Int)=>
 if (cop .neq r40.2.2.2 0)=true then
 some ((cop .eql r40.2.2.1 0),x0,x1,x2,x3,x4,x5,x6,x7,x8,x9,x10,x11,x12,x13,x14,x15,x16,x17,x18,x19,x20,x21,x22,x23,x24,x25,x26,x27,x28,x29,x30,x31,x32,x33,x34,x35,x36)
 else
 if (cop .neq r40.2.2.1 (iop .add .i64 (List.length x2:Int) 1))=true then
 some (false,x0,x1,x2,x3,x4,x5,x6,x7,x8,x9,x10,x11,x12,x13,x14,x15,x16,x17,x18,x19,x20,x21,x22,x23,x24,x25,x26,x27,x28,x29,x30,x31,x32,x33,x34,x35,x36)
 else
 Zv (Jw x2 (E0++[[AV.val (.int .i64 x38)]]) 8)<|
 Zv (Jw x3 (E0++[[AV.val (.int .u64 x39)]]) 8)<|
 Zv (Jw x4 (E0++[[AV.val (.int .i64 0)]]) 8)<|
 some (true,r40.1,r40.2.1,(x2++(E0++[[AV.val (.int .i64 x38)]])),(x3++(E0++[[AV.val (.int .u64 x39)]])),(x4++(E0++[[AV.val (.int .i64 0)]])),x5,x6,x7,x8,x9,x10,x11,x12,x13,x14,x15,x16,x17,x18,x19,x20,x21,x22,x23,x24,x25,x26,x27,x28,x29,x30,x31,x32,x33,x34,x35,x36)):=by kernel_rfl
noncomputable def F63:Fn:=⟨93,[4],[],[0],0,[],[],Try.f63,[.box [.int .i64,.slice 4,.own true 3,.own true 44,.own true 3,.bool,.bool,.bool,.bool,.bool,.bool,.bool,.bool,.bool,.bool,.bool,.bool,.bool,.bool,.bool,.bool,.bool,.bool,.bool,.bool,.bool,.bool,.bool,.bool,.bool,.bool,.bool,.bool,.bool,.bool,.bool,.bool],.c (.int .i64)],[.c (.bool)],[(74,F74.S),(14,F14.S)]⟩
theorem ZrL:F63.S.Ok Try.prog 63:=F63.ok Try.func63 (by kernel_rfl) ⟨Zri,⟨Zrg,trivial⟩⟩
noncomputable def g63 (x0:Int) (x1:LL) (x2:LL) (x3:LL) (x4:LL) (x5:Bool) (x6:Bool) (x7:Bool) (x8:Bool) (x9:Bool) (x10:Bool) (x11:Bool) (x12:Bool) (x13:Bool) (x14:Bool) (x15:Bool) (x16:Bool) (x17:Bool) (x18:Bool) (x19:Bool) (x20:Bool) (x21:Bool) (x22:Bool) (x23:Bool) (x24:Bool) (x25:Bool) (x26:Bool) (x27:Bool) (x28:Bool) (x29:Bool) (x30:Bool) (x31:Bool) (x32:Bool) (x33:Bool) (x34:Bool) (x35:Bool) (x36:Bool) (x37:Int):Option (Bool×Int×LL×LL×LL×LL×Bool×Bool×Bool×Bool×Bool×Bool×Bool×Bool×Bool×Bool×Bool×Bool×Bool×Bool×Bool×Bool×Bool×Bool×Bool×Bool×Bool×Bool×Bool×Bool×Bool×Bool×Bool×Bool×Bool×Bool×Bool×Bool):=F63.S.g [.i x0,.l x1,.l x2,.l x3,.l x4,.b x5,.b x6,.b x7,.b x8,.b x9,.b x10,.b x11,.b x12,.b x13,.b x14,.b x15,.b x16,.b x17,.b x18,.b x19,.b x20,.b x21,.b x22,.b x23,.b x24,.b x25,.b x26,.b x27,.b x28,.b x29,.b x30,.b x31,.b x32,.b x33,.b x34,.b x35,.b x36,.i x37]
theorem Zhu (x0:Int) (x1:LL) (x2:LL) (x3:LL) (x4:LL) (x5:Bool) (x6:Bool) (x7:Bool) (x8:Bool) (x9:Bool) (x10:Bool) (x11:Bool) (x12:Bool) (x13:Bool) (x14:Bool) (x15:Bool) (x16:Bool) (x17:Bool) (x18:Bool) (x19:Bool) (x20:Bool) (x21:Bool) (x22:Bool) (x23:Bool) (x24:Bool) (x25:Bool) (x26:Bool) (x27:Bool) (x28:Bool) (x29:Bool) (x30:Bool) (x31:Bool) (x32:Bool) (x33:Bool) (x34:Bool) (x35:Bool) (x36:Bool) (x37:Int):g63 x0 x1 x2 x3 x4 x5 x6 x7 x8 x9 x10 x11 x12 x13 x14 x15 x16 x17 x18 x19 x20 x21 x22 x23 x24 x25 x26 x27 x28 x29 x30 x31 x32 x33 x34 x35 x36 x37 =
 ((g74 x0 x1 x2 x3 x4 x5 x6 x7 x8 x9 x10 x11 x12 x13 x14 x15 x16 x17 x18 x19 x20 x21 x22 x23 x24 x25 x26 x27 x28 x29 x30 x31 x32 x33 x34 x35 x36 x37).bind fun (r38:Int×Int×Int×LL×LL×LL×LL×Bool×Bool×Bool×Bool×Bool×Bool×Bool×Bool×Bool×Bool×Bool×Bool×Bool×Bool×Bool×Bool×Bool×Bool×Bool×Bool×Bool×Bool×Bool×Bool×Bool×Bool×Bool×Bool×Bool×Bool×Bool×Bool)=>
 (g14 r38.2.2.1 r38.2.2.2.1 x37 r38.1).bind fun (r77:Int×LL×Int×Int×LL×Int×Int)=>
 if (cop .neq r77.2.2.2.2.2.2 0)=true then
 if (cop .lss r38.1 0)=true then
 if (cop .eql r77.2.2.2.2.2.2 17)=true then
 some (true,r38.2.2.1,r38.2.2.2.1,r38.2.2.2.2.1,r38.2.2.2.2.2.1,r38.2.2.2.2.2.2.1,r38.2.2.2.2.2.2.2.1,r38.2.2.2.2.2.2.2.2.1,r38.2.2.2.2.2.2.2.2.2.1,r38.2.2.2.2.2.2.2.2.2.2.1,r38.2.2.2.2.2.2.2.2.2.2.2.1,r38.2.2.2.2.2.2.2.2.2.2.2.2.1,r38.2.2.2.2.2.2.2.2.2.2.2.2.2.1,r38.2.2.2.2.2.2.2.2.2.2.2.2.2.2.1,r38.2.2.2.2.2.2.2.2.2.2.2.2.2.2.2.1,r38.2.2.2.2.2.2.2.2.2.2.2.2.2.2.2.2.1,r38.2.2.2.2.2.2.2.2.2.2.2.2.2.2.2.2.2.1,r38.2.2.2.2.2.2.2.2.2.2.2.2.2.2.2.2.2.2.1,r38.2.2.2.2.2.2.2.2.2.2.2.2.2.2.2.2.2.2.2.1,r38.2.2.2.2.2.2.2.2.2.2.2.2.2.2.2.2.2.2.2.2.1,r38.2.2.2.2.2.2.2.2.2.2.2.2.2.2.2.2.2.2.2.2.2.1,r38.2.2.2.2.2.2.2.2.2.2.2.2.2.2.2.2.2.2.2.2.2.2.1,r38.2.2.2.2.2.2.2.2.2.2.2.2.2.2.2.2.2.2.2.2.2.2.2.1,r38.2.2.2.2.2.2.2.2.2.2.2.2.2.2.2.2.2.2.2.2.2.2.2.2.1,r38.2.2.2.2.2.2.2.2.2.2.2.2.2.2.2.2.2.2.2.2.2.2.2.2.2.1,r38.2.2.2.2.2.2.2.2.2.2.2.2.2.2.2.2.2.2.2.2.2.2.2.2.2.2.1,r38.2.2.2.2.2.2.2.2.2.2.2.2.2.2.2.2.2.2.2.2.2.2.2.2.2.2.2.1,r38.2.2.2.2.2.2.2.2.2.2.2.2.2.2.2.2.2.2.2.2.2.2.2.2.2.2.2.2.1,r38.2.2.2.2.2.2.2.2.2.2.2.2.2.2.2.2.2.2.2.2.2.2.2.2.2.2.2.2.2.1,r38.2.2.2.2.2.2.2.2.2.2.2.2.2.2.2.2.2.2.2.2.2.2.2.2.2.2.2.2.2.2.1,r38.2.2.2.2.2.2.2.2.2.2.2.2.2.2.2.2.2.2.2.2.2.2.2.2.2.2.2.2.2.2.2.1,r38.2.2.2.2.2.2.2.2.2.2.2.2.2.2.2.2.2.2.2.2.2.2.2.2.2.2.2.2.2.2.2.2.1,r38.2.2.2.2.2.2.2.2.2.2.2.2.2.2.2.2.2.2.2.2.2.2.2.2.2.2.2.2.2.2.2.2.2.1,r38.2.2.2.2.2.2.2.2.2.2.2.2.2.2.2.2.2.2.2.2.2.2.2.2.2.2.2.2.2.2.2.2.2.2.1,r38.2.2.2.2.2.2.2.2.2.2.2.2.2.2.2.2.2.2.2.2.2.2.2.2.2.2.2.2.2.2.2.2.2.2.2.1,r38.2.2.2.2.2.2.2.2.2.2.2.2.2.2.2.2.2.2.2.2.2.2.2.2.2.2.2.2.2.2.2.2.2.2.2.2.1,r38.2.2.2.2.2.2.2.2.2.2.2.2.2.2.2.2.2.2.2.2.2.2.2.2.2.2.2.2.2.2.2.2.2.2.2.2.2.1,r38.2.2.2.2.2.2.2.2.2.2.2.2.2.2.2.2.2.2.2.2.2.2.2.2.2.2.2.2.2.2.2.2.2.2.2.2.2.2)
 else
 some ((cop .eql r77.2.2.2.2.2.2 2),r38.2.2.1,r38.2.2.2.1,r38.2.2.2.2.1,r38.2.2.2.2.2.1,r38.2.2.2.2.2.2.1,r38.2.2.2.2.2.2.2.1,r38.2.2.2.2.2.2.2.2.1,r38.2.2.2.2.2.2.2.2.2.1,r38.2.2.2.2.2.2.2.2.2.2.1,r38.2.2.2.2.2.2.2.2.2.2.2.1,r38.2.2.2.2.2.2.2.2.2.2.2.2.1,r38.2.2.2.2.2.2.2.2.2.2.2.2.2.1,r38.2.2.2.2.2.2.2.2.2.2.2.2.2.2.1,r38.2.2.2.2.2.2.2.2.2.2.2.2.2.2.2.1,r38.2.2.2.2.2.2.2.2.2.2.2.2.2.2.2.2.1,r38.2.2.2.2.2.2.2.2.2.2.2.2.2.2.2.2.2.1,r38.2.2.2.2.2.2.2.2.2.2.2.2.2.2.2.2.2.2.1,r38.2.2.2.2.2.2.2.2.2.2.2.2.2.2.2.2.2.2.2.1,r38.2.2.2.2.2.2.2.2.2.2.2.2.2.2.2.2.2.2.2.2.1,r38.2.2.2.2.2.2.2.2.2.2.2.2.2.2.2.2.2.2.2.2.2.1,r38.2.2.2.2.2.2.2.2.2.2.2.2.2.2.2.2.2.2.2.2.2.2.1,r38.2.2.2.2.2.2.2.2.2.2.2.2.2.2.2.2.2.2.2.2.2.2.2.1,r38.2.2.2.2.2.2.2.2.2.2.2.2.2.2.2.2.2.2.2.2.2.2.2.2.1,r38.2.2.2.2.2.2.2.2.2.2.2.2.2.2.2.2.2.2.2.2.2.2.2.2.2.1,r38.2.2.2.2.2.2.2.2.2.2.2.2.2.2.2.2.2.2.2.2.2.2.2.2.2.2.1,r38.2.2.2.2.2.2.2.2.2.2.2.2.2.2.2.2.2.2.2.2.2.2.2.2.2.2.2.1,r38.2.2.2.2.2.2.2.2.2.2.2.2.2.2.2.2.2.2.2.2.2.2.2.2.2.2.2.2.1,r38.2.2.2.2.2.2.2.2.2.2.2.2.2.2.2.2.2.2.2.2.2.2.2.2.2.2.2.2.2.1,r38.2.2.2.2.2.2.2.2.2.2.2.2.2.2.2.2.2.2.2.2.2.2.2.2.2.2.2.2.2.2.1,r38.2.2.2.2.2.2.2.2.2.2.2.2.2.2.2.2.2.2.2.2.2.2.2.2.2.2.2.2.2.2.2.1,r38.2.2.2.2.2.2.2.2.2.2.2.2.2.2.2.2.2.2.2.2.2.2.2.2.2.2.2.2.2.2.2.2.1,r38.2.2.2.2.2.2.2.2.2.2.2.2.2.2.2.2.2.2.2.2.2.2.2.2.2.2.2.2.2.2.2.2.2.1,r38.2.2.2.2.2.2.2.2.2.2.2.2.2.2.2.2.2.2.2.2.2.2.2.2.2.2.2.2.2.2.2.2.2.2.1,r38.2.2.2.2.2.2.2.2.2.2.2.2.2.2.2.2.2.2.2.2.2.2.2.2.2.2.2.2.2.2.2.2.2.2.2.1,r38.2.2.2.2.2.2.2.2.2.2.2.2.2.2.2.2.2.2.2.2.2.2.2.2.2.2.2.2.2.2.2.2.2.2.2.2.1,r38.2.2.2.2.2.2.2.2.2.2.2.2.2.2.2.2.2.2.2.2.2.2.2.2.2.2.2.2.2.2.2.2.2.2.2.2.2.1,r38.2.2.2.2.2.2.2.2.2.2.2.2.2.2.2.2.2.2.2.2.2.2.2.2.2.2.2.2.2.2.2.2.2.2.2.2.2.2)
 else
 some ((cop .eql r77.2.2.2.2.2.2 2),r38.2.2.1,r38.2.2.2.1,r38.2.2.2.2.1,r38.2.2.2.2.2.1,r38.2.2.2.2.2.2.1,r38.2.2.2.2.2.2.2.1,r38.2.2.2.2.2.2.2.2.1,r38.2.2.2.2.2.2.2.2.2.1,r38.2.2.2.2.2.2.2.2.2.2.1,r38.2.2.2.2.2.2.2.2.2.2.2.1,r38.2.2.2.2.2.2.2.2.2.2.2.2.1,r38.2.2.2.2.2.2.2.2.2.2.2.2.2.1,r38.2.2.2.2.2.2.2.2.2.2.2.2.2.2.1,r38.2.2.2.2.2.2.2.2.2.2.2.2.2.2.2.1,r38.2.2.2.2.2.2.2.2.2.2.2.2.2.2.2.2.1,r38.2.2.2.2.2.2.2.2.2.2.2.2.2.2.2.2.2.1,r38.2.2.2.2.2.2.2.2.2.2.2.2.2.2.2.2.2.2.1,r38.2.2.2.2.2.2.2.2.2.2.2.2.2.2.2.2.2.2.2.1,r38.2.2.2.2.2.2.2.2.2.2.2.2.2.2.2.2.2.2.2.2.1,r38.2.2.2.2.2.2.2.2.2.2.2.2.2.2.2.2.2.2.2.2.2.1,r38.2.2.2.2.2.2.2.2.2.2.2.2.2.2.2.2.2.2.2.2.2.2.1,r38.2.2.2.2.2.2.2.2.2.2.2.2.2.2.2.2.2.2.2.2.2.2.2.1,r38.2.2.2.2.2.2.2.2.2.2.2.2.2.2.2.2.2.2.2.2.2.2.2.2.1,r38.2.2.2.2.2.2.2.2.2.2.2.2.2.2.2.2.2.2.2.2.2.2.2.2.2.1,r38.2.2.2.2.2.2.2.2.2.2.2.2.2.2.2.2.2.2.2.2.2.2.2.2.2.2.1,r38.2.2.2.2.2.2.2.2.2.2.2.2.2.2.2.2.2.2.2.2.2.2.2.2.2.2.2.1,r38.2.2.2.2.2.2.2.2.2.2.2.2.2.2.2.2.2.2.2.2.2.2.2.2.2.2.2.2.1,r38.2.2.2.2.2.2.2.2.2.2.2.2.2.2.2.2.2.2.2.2.2.2.2.2.2.2.2.2.2.1,r38.2.2.2.2.2.2.2.2.2.2.2.2.2.2.2.2.2.2.2.2.2.2.2.2.2.2.2.2.2.2.1,r38.2.2.2.2.2.2.2.2.2.2.2.2.2.2.2.2.2.2.2.2.2.2.2.2.2.2.2.2.2.2.2.1,r38.2.2.2.2.2.2.2.2.2.2.2.2.2.2.2.2.2.2.2.2.2.2.2.2.2.2.2.2.2.2.2.2.1,r38.2.2.2.2.2.2.2.2.2.2.2.2.2.2.2.2.2.2.2.2.2.2.2.2.2.2.2.2.2.2.2.2.2.1,r38.2.2.2.2.2.2.2.2.2.2.2.2.2.2.2.2.2.2.2.2.2.2.2.2.2.2.2.2.2.2.2.2.2.2.1,r38.2.2.2.2.2.2.2.2.2.2.2.2.2.2.2.2.2.2.2.2.2.2.2.2.2.2.2.2.2.2.2.2.2.2.2.1,r38.2.2.2.2.2.2.2.2.2.2.2.2.2.2.2.2.2.2.2.2.2.2.2.2.2.2.2.2.2.2.2.2.2.2.2.2.1,r38.2.2.2.2.2.2.2.2.2.2.2.2.2.2.2.2.2.2.2.2.2.2.2.2.2.2.2.2.2.2.2.2.2.2.2.2.2.1,r38.2.2.2.2.2.2.2.2.2.2.2.2.2.2.2.2.2.2.2.2.2.2.2.2.2.2.2.2.2.2.2.2.2.2.2.2.2.2)
 else
 if (cop .leq r77.2.2.1 0)=true then
 some ((cop .eql r77.2.2.1 0),r77.1,r77.2.1,r38.2.2.2.2.1,r38.2.2.2.2.2.1,r38.2.2.2.2.2.2.1,r38.2.2.2.2.2.2.2.1,r38.2.2.2.2.2.2.2.2.1,r38.2.2.2.2.2.2.2.2.2.1,r38.2.2.2.2.2.2.2.2.2.2.1,r38.2.2.2.2.2.2.2.2.2.2.2.1,r38.2.2.2.2.2.2.2.2.2.2.2.2.1,r38.2.2.2.2.2.2.2.2.2.2.2.2.2.1,r38.2.2.2.2.2.2.2.2.2.2.2.2.2.2.1,r38.2.2.2.2.2.2.2.2.2.2.2.2.2.2.2.1,r38.2.2.2.2.2.2.2.2.2.2.2.2.2.2.2.2.1,r38.2.2.2.2.2.2.2.2.2.2.2.2.2.2.2.2.2.1,r38.2.2.2.2.2.2.2.2.2.2.2.2.2.2.2.2.2.2.1,r38.2.2.2.2.2.2.2.2.2.2.2.2.2.2.2.2.2.2.2.1,r38.2.2.2.2.2.2.2.2.2.2.2.2.2.2.2.2.2.2.2.2.1,r38.2.2.2.2.2.2.2.2.2.2.2.2.2.2.2.2.2.2.2.2.2.1,r38.2.2.2.2.2.2.2.2.2.2.2.2.2.2.2.2.2.2.2.2.2.2.1,r38.2.2.2.2.2.2.2.2.2.2.2.2.2.2.2.2.2.2.2.2.2.2.2.1,r38.2.2.2.2.2.2.2.2.2.2.2.2.2.2.2.2.2.2.2.2.2.2.2.2.1,r38.2.2.2.2.2.2.2.2.2.2.2.2.2.2.2.2.2.2.2.2.2.2.2.2.2.1,r38.2.2.2.2.2.2.2.2.2.2.2.2.2.2.2.2.2.2.2.2.2.2.2.2.2.2.1,r38.2.2.2.2.2.2.2.2.2.2.2.2.2.2.2.2.2.2.2.2.2.2.2.2.2.2.2.1,r38.2.2.2.2.2.2.2.2.2.2.2.2.2.2.2.2.2.2.2.2.2.2.2.2.2.2.2.2.1,r38.2.2.2.2.2.2.2.2.2.2.2.2.2.2.2.2.2.2.2.2.2.2.2.2.2.2.2.2.2.1,r38.2.2.2.2.2.2.2.2.2.2.2.2.2.2.2.2.2.2.2.2.2.2.2.2.2.2.2.2.2.2.1,r38.2.2.2.2.2.2.2.2.2.2.2.2.2.2.2.2.2.2.2.2.2.2.2.2.2.2.2.2.2.2.2.1,r38.2.2.2.2.2.2.2.2.2.2.2.2.2.2.2.2.2.2.2.2.2.2.2.2.2.2.2.2.2.2.2.2.1,r38.2.2.2.2.2.2.2.2.2.2.2.2.2.2.2.2.2.2.2.2.2.2.2.2.2.2.2.2.2.2.2.2.2.1,r38.2.2.2.2.2.2.2.2.2.2.2.2.2.2.2.2.2.2.2.2.2.2.2.2.2.2.2.2.2.2.2.2.2.2.1,r38.2.2.2.2.2.2.2.2.2.2.2.2.2.2.2.2.2.2.2.2.2.2.2.2.2.2.2.2.2.2.2.2.2.2.2.1,r38.2.2.2.2.2.2.2.2.2.2.2.2.2.2.2.2.2.2.2.2.2.2.2.2.2.2.2.2.2.2.2.2.2.2.2.2.1,r38.2.2.2.2.2.2.2.2.2.2.2.2.2.2.2.2.2.2.2.2.2.2.2.2.2.2.2.2.2.2.2.2.2.2.2.2.2.1,r38.2.2.2.2.2.2.2.2.2.2.2.2.2.2.2.2.2.2.2.2.2.2.2.2.2.2.2.2.2.2.2.2.2.2.2.2.2.2)
 else
 if (cop .leq r77.2.2.1 (List.length r38.2.2.2.2.2.1:Int))=true then
 if (cop .eql (List.length r77.2.2.2.2.1:Int) 1)=true then
 ZJ r77.2.2.2.2.1 0 [.int .u64] fun (r84:Int)=>
 Zv ((0:Int)≤(iop .sub .i64 r77.2.2.1 1))<|
 Zv (((iop .sub .i64 r77.2.2.1 1):Int) < (List.length r38.2.2.2.2.2.1:Int))<|
 ZJ r38.2.2.2.2.2.1 (iop .sub .i64 r77.2.2.1 1) [.int .u64] fun (r85:Int)=>
 if (cop .eql r84 r85)=true then
 Zv ((0:Int)≤(iop .sub .i64 r77.2.2.1 1))<|
 Zv (((iop .sub .i64 r77.2.2.1 1):Int) < (List.length r38.2.2.2.2.1:Int))<|
 ZJ r38.2.2.2.2.1 (iop .sub .i64 r77.2.2.1 1) [.int .i64] fun (r86:Int)=>
 some ((cop .eql r77.2.2.2.1 r86),r77.1,r77.2.1,r38.2.2.2.2.1,r38.2.2.2.2.2.1,r38.2.2.2.2.2.2.1,r38.2.2.2.2.2.2.2.1,r38.2.2.2.2.2.2.2.2.1,r38.2.2.2.2.2.2.2.2.2.1,r38.2.2.2.2.2.2.2.2.2.2.1,r38.2.2.2.2.2.2.2.2.2.2.2.1,r38.2.2.2.2.2.2.2.2.2.2.2.2.1,r38.2.2.2.2.2.2.2.2.2.2.2.2.2.1,r38.2.2.2.2.2.2.2.2.2.2.2.2.2.2.1,r38.2.2.2.2.2.2.2.2.2.2.2.2.2.2.2.1,r38.2.2.2.2.2.2.2.2.2.2.2.2.2.2.2.2.1,r38.2.2.2.2.2.2.2.2.2.2.2.2.2.2.2.2.2.1,r38.2.2.2.2.2.2.2.2.2.2.2.2.2.2.2.2.2.2.1,r38.2.2.2.2.2.2.2.2.2.2.2.2.2.2.2.2.2.2.2.1,r38.2.2.2.2.2.2.2.2.2.2.2.2.2.2.2.2.2.2.2.2.1,r38.2.2.2.2.2.2.2.2.2.2.2.2.2.2.2.2.2.2.2.2.2.1,r38.2.2.2.2.2.2.2.2.2.2.2.2.2.2.2.2.2.2.2.2.2.2.1,r38.2.2.2.2.2.2.2.2.2.2.2.2.2.2.2.2.2.2.2.2.2.2.2.1,r38.2.2.2.2.2.2.2.2.2.2.2.2.2.2.2.2.2.2.2.2.2.2.2.2.1,r38.2.2.2.2.2.2.2.2.2.2.2.2.2.2.2.2.2.2.2.2.2.2.2.2.2.1,r38.2.2.2.2.2.2.2.2.2.2.2.2.2.2.2.2.2.2.2.2.2.2.2.2.2.2.1,r38.2.2.2.2.2.2.2.2.2.2.2.2.2.2.2.2.2.2.2.2.2.2.2.2.2.2.2.1,r38.2.2.2.2.2.2.2.2.2.2.2.2.2.2.2.2.2.2.2.2.2.2.2.2.2.2.2.2.1,r38.2.2.2.2.2.2.2.2.2.2.2.2.2.2.2.2.2.2.2.2.2.2.2.2.2.2.2.2.2.1,r38.2.2.2.2.2.2.2.2.2.2.2.2.2.2.2.2.2.2.2.2.2.2.2.2.2.2.2.2.2.2.1,r38.2.2.2.2.2.2.2.2.2.2.2.2.2.2.2.2.2.2.2.2.2.2.2.2.2.2.2.2.2.2.2.1,r38.2.2.2.2.2.2.2.2.2.2.2.2.2.2.2.2.2.2.2.2.2.2.2.2.2.2.2.2.2.2.2.2.1,r38.2.2.2.2.2.2.2.2.2.2.2.2.2.2.2.2.2.2.2.2.2.2.2.2.2.2.2.2.2.2.2.2.2.1,r38.2.2.2.2.2.2.2.2.2.2.2.2.2.2.2.2.2.2.2.2.2.2.2.2.2.2.2.2.2.2.2.2.2.2.1,r38.2.2.2.2.2.2.2.2.2.2.2.2.2.2.2.2.2.2.2.2.2.2.2.2.2.2.2.2.2.2.2.2.2.2.2.1,r38.2.2.2.2.2.2.2.2.2.2.2.2.2.2.2.2.2.2.2.2.2.2.2.2.2.2.2.2.2.2.2.2.2.2.2.2.1,r38.2.2.2.2.2.2.2.2.2.2.2.2.2.2.2.2.2.2.2.2.2.2.2.2.2.2.2.2.2.2.2.2.2.2.2.2.2.1,r38.2.2.2.2.2.2.2.2.2.2.2.2.2.2.2.2.2.2.2.2.2.2.2.2.2.2.2.2.2.2.2.2.2.2.2.2.2.2)
 else
 some (false,r77.1,r77.2.1,r38.2.2.2.2.1,r38.2.2.2.2.2.1,r38.2.2.2.2.2.2.1,r38.2.2.2.2.2.2.2.1,r38.2.2.2.2.2.2.2.2.1,r38.2.2.2.2.2.2.2.2.2.1,r38.2.2.2.2.2.2.2.2.2.2.1,r38.2.2.2.2.2.2.2.2.2.2.2.1,r38.2.2.2.2.2.2.2.2.2.2.2.2.1,r38.2.2.2.2.2.2.2.2.2.2.2.2.2.1,r38.2.2.2.2.2.2.2.2.2.2.2.2.2.2.1,r38.2.2.2.2.2.2.2.2.2.2.2.2.2.2.2.1,r38.2.2.2.2.2.2.2.2.2.2.2.2.2.2.2.2.1,r38.2.2.2.2.2.2.2.2.2.2.2.2.2.2.2.2.2.1,r38.2.2.2.2.2.2.2.2.2.2.2.2.2.2.2.2.2.2.1,r38.2.2.2.2.2.2.2.2.2.2.2.2.2.2.2.2.2.2.2.1,r38.2.2.2.2.2.2.2.2.2.2.2.2.2.2.2.2.2.2.2.2.1,r38.2.2.2.2.2.2.2.2.2.2.2.2.2.2.2.2.2.2.2.2.2.1,r38.2.2.2.2.2.2.2.2.2.2.2.2.2.2.2.2.2.2.2.2.2.2.1,r38.2.2.2.2.2.2.2.2.2.2.2.2.2.2.2.2.2.2.2.2.2.2.2.1,r38.2.2.2.2.2.2.2.2.2.2.2.2.2.2.2.2.2.2.2.2.2.2.2.2.1,r38.2.2.2.2.2.2.2.2.2.2.2.2.2.2.2.2.2.2.2.2.2.2.2.2.2.1,r38.2.2.2.2.2.2.2.2.2.2.2.2.2.2.2.2.2.2.2.2.2.2.2.2.2.2.1,r38.2.2.2.2.2.2.2.2.2.2.2.2.2.2.2.2.2.2.2.2.2.2.2.2.2.2.2.1,r38.2.2.2.2.2.2.2.2.2.2.2.2.2.2.2.2.2.2.2.2.2.2.2.2.2.2.2.2.1,r38.2.2.2.2.2.2.2.2.2.2.2.2.2.2.2.2.2.2.2.2.2.2.2.2.2.2.2.2.2.1,r38.2.2.2.2.2.2.2.2.2.2.2.2.2.2.2.2.2.2.2.2.2.2.2.2.2.2.2.2.2.2.1,r38.2.2.2.2.2.2.2.2.2.2.2.2.2.2.2.2.2.2.2.2.2.2.2.2.2.2.2.2.2.2.2.1,r38.2.2.2.2.2.2.2.2.2.2.2.2.2.2.2.2.2.2.2.2.2.2.2.2.2.2.2.2.2.2.2.2.1,r38.2.2.2.2.2.2.2.2.2.2.2.2.2.2.2.2.2.2.2.2.2.2.2.2.2.2.2.2.2.2.2.2.2.1,r38.2.2.2.2.2.2.2.2.2.2.2.2.2.2.2.2.2.2.2.2.2.2.2.2.2.2.2.2.2.2.2.2.2.2.1,r38.2.2.2.2.2.2.2.2.2.2.2.2.2.2.2.2.2.2.2.2.2.2.2.2.2.2.2.2.2.2.2.2.2.2.2.1,r38.2.2.2.2.2.2.2.2.2.2.2.2.2.2.2.2.2.2.2.2.2.2.2.2.2.2.2.2.2.2.2.2.2.2.2.2.1,r38.2.2.2.2.2.2.2.2.2.2.2.2.2.2.2.2.2.2.2.2.2.2.2.2.2.2.2.2.2.2.2.2.2.2.2.2.2.1,r38.2.2.2.2.2.2.2.2.2.2.2.2.2.2.2.2.2.2.2.2.2.2.2.2.2.2.2.2.2.2.2.2.2.2.2.2.2.2)
 else
 some (false,r77.1,r77.2.1,r38.2.2.2.2.1,r38.2.2.2.2.2.1,r38.2.2.2.2.2.2.1,r38.2.2.2.2.2.2.2.1,r38.2.2.2.2.2.2.2.2.1,r38.2.2.2.2.2.2.2.2.2.1,r38.2.2.2.2.2.2.2.2.2.2.1,r38.2.2.2.2.2.2.2.2.2.2.2.1,r38.2.2.2.2.2.2.2.2.2.2.2.2.1,r38.2.2.2.2.2.2.2.2.2.2.2.2.2.1,r38.2.2.2.2.2.2.2.2.2.2.2.2.2.2.1,r38.2.2.2.2.2.2.2.2.2.2.2.2.2.2.2.1,r38.2.2.2.2.2.2.2.2.2.2.2.2.2.2.2.2.1,r38.2.2.2.2.2.2.2.2.2.2.2.2.2.2.2.2.2.1,r38.2.2.2.2.2.2.2.2.2.2.2.2.2.2.2.2.2.2.1,r38.2.2.2.2.2.2.2.2.2.2.2.2.2.2.2.2.2.2.2.1,r38.2.2.2.2.2.2.2.2.2.2.2.2.2.2.2.2.2.2.2.2.1,r38.2.2.2.2.2.2.2.2.2.2.2.2.2.2.2.2.2.2.2.2.2.1,r38.2.2.2.2.2.2.2.2.2.2.2.2.2.2.2.2.2.2.2.2.2.2.1,r38.2.2.2.2.2.2.2.2.2.2.2.2.2.2.2.2.2.2.2.2.2.2.2.1,r38.2.2.2.2.2.2.2.2.2.2.2.2.2.2.2.2.2.2.2.2.2.2.2.2.1,r38.2.2.2.2.2.2.2.2.2.2.2.2.2.2.2.2.2.2.2.2.2.2.2.2.2.1,r38.2.2.2.2.2.2.2.2.2.2.2.2.2.2.2.2.2.2.2.2.2.2.2.2.2.2.1,r38.2.2.2.2.2.2.2.2.2.2.2.2.2.2.2.2.2.2.2.2.2.2.2.2.2.2.2.1,r38.2.2.2.2.2.2.2.2.2.2.2.2.2.2.2.2.2.2.2.2.2.2.2.2.2.2.2.2.1,r38.2.2.2.2.2.2.2.2.2.2.2.2.2.2.2.2.2.2.2.2.2.2.2.2.2.2.2.2.2.1,r38.2.2.2.2.2.2.2.2.2.2.2.2.2.2.2.2.2.2.2.2.2.2.2.2.2.2.2.2.2.2.1,r38.2.2.2.2.2.2.2.2.2.2.2.2.2.2.2.2.2.2.2.2.2.2.2.2.2.2.2.2.2.2.2.1,r38.2.2.2.2.2.2.2.2.2.2.2.2.2.2.2.2.2.2.2.2.2.2.2.2.2.2.2.2.2.2.2.2.1,r38.2.2.2.2.2.2.2.2.2.2.2.2.2.2.2.2.2.2.2.2.2.2.2.2.2.2.2.2.2.2.2.2.2.1,r38.2.2.2.2.2.2.2.2.2.2.2.2.2.2.2.2.2.2.2.2.2.2.2.2.2.2.2.2.2.2.2.2.2.2.1,r38.2.2.2.2.2.2.2.2.2.2.2.2.2.2.2.2.2.2.2.2.2.2.2.2.2.2.2.2.2.2.2.2.2.2.2.1,r38.2.2.2.2.2.2.2.2.2.2.2.2.2.2.2.2.2.2.2.2.2.2.2.2.2.2.2.2.2.2.2.2.2.2.2.2.1,r38.2.2.2.2.2.2.2.2.2.2.2.2.2.2.2.2.2.2.2.2.2.2.2.2.2.2.2.2.2.2.2.2.2.2.2.2.2.1,r38.2.2.2.2.2.2.2.2.2.2.2.2.2.2.2.2.2.2.2.2.2.2.2.2.2.2.2.2.2.2.2.2.2.2.2.2.2.2)
 else
 some (false,r77.1,r77.2.1,r38.2.2.2.2.1,r38.2.2.2.2.2.1,r38.2.2.2.2.2.2.1,r38.2.2.2.2.2.2.2.1,r38.2.2.2.2.2.2.2.2.1,r38.2.2.2.2.2.2.2.2.2.1,r38.2.2.2.2.2.2.2.2.2.2.1,r38.2.2.2.2.2.2.2.2.2.2.2.1,r38.2.2.2.2.2.2.2.2.2.2.2.2.1,r38.2.2.2.2.2.2.2.2.2.2.2.2.2.1,r38.2.2.2.2.2.2.2.2.2.2.2.2.2.2.1,r38.2.2.2.2.2.2.2.2.2.2.2.2.2.2.2.1,r38.2.2.2.2.2.2.2.2.2.2.2.2.2.2.2.2.1,r38.2.2.2.2.2.2.2.2.2.2.2.2.2.2.2.2.2.1,r38.2.2.2.2.2.2.2.2.2.2.2.2.2.2.2.2.2.2.1,r38.2.2.2.2.2.2.2.2.2.2.2.2.2.2.2.2.2.2.2.1,r38.2.2.2.2.2.2.2.2.2.2.2.2.2.2.2.2.2.2.2.2.1,r38.2.2.2.2.2.2.2.2.2.2.2.2.2.2.2.2.2.2.2.2.2.1,r38.2.2.2.2.2.2.2.2.2.2.2.2.2.2.2.2.2.2.2.2.2.2.1,r38.2.2.2.2.2.2.2.2.2.2.2.2.2.2.2.2.2.2.2.2.2.2.2.1,r38.2.2.2.2.2.2.2.2.2.2.2.2.2.2.2.2.2.2.2.2.2.2.2.2.1,r38.2.2.2.2.2.2.2.2.2.2.2.2.2.2.2.2.2.2.2.2.2.2.2.2.2.1,r38.2.2.2.2.2.2.2.2.2.2.2.2.2.2.2.2.2.2.2.2.2.2.2.2.2.2.1,r38.2.2.2.2.2.2.2.2.2.2.2.2.2.2.2.2.2.2.2.2.2.2.2.2.2.2.2.1,r38.2.2.2.2.2.2.2.2.2.2.2.2.2.2.2.2.2.2.2.2.2.2.2.2.2.2.2.2.1,r38.2.2.2.2.2.2.2.2.2.2.2.2.2.2.2.2.2.2.2.2.2.2.2.2.2.2.2.2.2.1,r38.2.2.2.2.2.2.2.2.2.2.2.2.2.2.2.2.2.2.2.2.2.2.2.2.2.2.2.2.2.2.1,r38.2.2.2.2.2.2.2.2.2.2.2.2.2.2.2.2.2.2.2.2.2.2.2.2.2.2.2.2.2.2.2.1,r38.2.2.2.2.2.2.2.2.2.2.2.2.2.2.2.2.2.2.2.2.2.2.2.2.2.2.2.2.2.2.2.2.1,r38.2.2.2.2.2.2.2.2.2.2.2.2.2.2.2.2.2.2.2.2.2.2.2.2.2.2.2.2.2.2.2.2.2.1,r38.2.2.2.2.2.2.2.2.2.2.2.2.2.2.2.2.2.2.2.2.2.2.2.2.2.2.2.2.2.2.2.2.2.2.1,r38.2.2.2.2.2.2.2.2.2.2.2.2.2.2.2.2.2.2.2.2.2.2.2.2.2.2.2.2.2.2.2.2.2.2.2.1,r38.2.2.2.2.2.2.2.2.2.2.2.2.2.2.2.2.2.2.2.2.2.2.2.2.2.2.2.2.2.2.2.2.2.2.2.2.1,r38.2.2.2.2.2.2.2.2.2.2.2.2.2.2.2.2.2.2.2.2.2.2.2.2.2.2.2.2.2.2.2.2.2.2.2.2.2.1,r38.2.2.2.2.2.2.2.2.2.2.2.2.2.2.2.2.2.2.2.2.2.2.2.2.2.2.2.2.2.2.2.2.2.2.2.2.2.2)):=by kernel_rfl
noncomputable def F64:Fn:=⟨69,[6],[],[0],0,[],[],Try.f64,[.box [.int .i64,.slice 4,.own true 3,.own true 44,.own true 3,.bool,.bool,.bool,.bool,.bool,.bool,.bool,.bool,.bool,.bool,.bool,.bool,.bool,.bool,.bool,.bool,.bool,.bool,.bool,.bool,.bool,.bool,.bool,.bool,.bool,.bool,.bool,.bool,.bool,.bool,.bool,.bool],.c (.int .i64),.c (.int .u64)],[.c (.bool)],[(74,F74.S),(17,F17.S),(73,F73.S)]⟩
theorem ZrN:F64.S.Ok Try.prog 64:=F64.ok Try.func64 (by kernel_rfl) ⟨Zri,⟨Zrv,⟨Zrs,trivial⟩⟩⟩
noncomputable def g64 (x0:Int) (x1:LL) (x2:LL) (x3:LL) (x4:LL) (x5:Bool) (x6:Bool) (x7:Bool) (x8:Bool) (x9:Bool) (x10:Bool) (x11:Bool) (x12:Bool) (x13:Bool) (x14:Bool) (x15:Bool) (x16:Bool) (x17:Bool) (x18:Bool) (x19:Bool) (x20:Bool) (x21:Bool) (x22:Bool) (x23:Bool) (x24:Bool) (x25:Bool) (x26:Bool) (x27:Bool) (x28:Bool) (x29:Bool) (x30:Bool) (x31:Bool) (x32:Bool) (x33:Bool) (x34:Bool) (x35:Bool) (x36:Bool) (x37:Int) (x38:Int):Option (Bool×Int×LL×LL×LL×LL×Bool×Bool×Bool×Bool×Bool×Bool×Bool×Bool×Bool×Bool×Bool×Bool×Bool×Bool×Bool×Bool×Bool×Bool×Bool×Bool×Bool×Bool×Bool×Bool×Bool×Bool×Bool×Bool×Bool×Bool×Bool×Bool):=F64.S.g [.i x0,.l x1,.l x2,.l x3,.l x4,.b x5,.b x6,.b x7,.b x8,.b x9,.b x10,.b x11,.b x12,.b x13,.b x14,.b x15,.b x16,.b x17,.b x18,.b x19,.b x20,.b x21,.b x22,.b x23,.b x24,.b x25,.b x26,.b x27,.b x28,.b x29,.b x30,.b x31,.b x32,.b x33,.b x34,.b x35,.b x36,.i x37,.i x38]
theorem Zne (x0:Int) (x1:LL) (x2:LL) (x3:LL) (x4:LL) (x5:Bool) (x6:Bool) (x7:Bool) (x8:Bool) (x9:Bool) (x10:Bool) (x11:Bool) (x12:Bool) (x13:Bool) (x14:Bool) (x15:Bool) (x16:Bool) (x17:Bool) (x18:Bool) (x19:Bool) (x20:Bool) (x21:Bool) (x22:Bool) (x23:Bool) (x24:Bool) (x25:Bool) (x26:Bool) (x27:Bool) (x28:Bool) (x29:Bool) (x30:Bool) (x31:Bool) (x32:Bool) (x33:Bool) (x34:Bool) (x35:Bool) (x36:Bool) (x37:Int) (x38:Int):g64 x0 x1 x2 x3 x4 x5 x6 x7 x8 x9 x10 x11 x12 x13 x14 x15 x16 x17 x18 x19 x20 x21 x22 x23 x24 x25 x26 x27 x28 x29 x30 x31 x32 x33 x34 x35 x36 x37 x38 =
 ((g74 x0 x1 x2 x3 x4 x5 x6 x7 x8 x9 x10 x11 x12 x13 x14 x15 x16 x17 x18 x19 x20 x21 x22 x23 x24 x25 x26 x27 x28 x29 x30 x31 x32 x33 x34 x35 x36 x37).bind fun (r39:Int×Int×Int×LL×LL×LL×LL×Bool×Bool×Bool×Bool×Bool×Bool×Bool×Bool×Bool×Bool×Bool×Bool×Bool×Bool×Bool×Bool×Bool×Bool×Bool×Bool×Bool×Bool×Bool×Bool×Bool×Bool×Bool×Bool×Bool×Bool×Bool×Bool)=>
 if (cop .eql r39.2.1 0)=true then
 some (true,r39.2.2.1,r39.2.2.2.1,r39.2.2.2.2.1,r39.2.2.2.2.2.1,r39.2.2.2.2.2.2.1,r39.2.2.2.2.2.2.2.1,r39.2.2.2.2.2.2.2.2.1,r39.2.2.2.2.2.2.2.2.2.1,r39.2.2.2.2.2.2.2.2.2.2.1,r39.2.2.2.2.2.2.2.2.2.2.2.1,r39.2.2.2.2.2.2.2.2.2.2.2.2.1,r39.2.2.2.2.2.2.2.2.2.2.2.2.2.1,r39.2.2.2.2.2.2.2.2.2.2.2.2.2.2.1,r39.2.2.2.2.2.2.2.2.2.2.2.2.2.2.2.1,r39.2.2.2.2.2.2.2.2.2.2.2.2.2.2.2.2.1,r39.2.2.2.2.2.2.2.2.2.2.2.2.2.2.2.2.2.1,r39.2.2.2.2.2.2.2.2.2.2.2.2.2.2.2.2.2.2.1,r39.2.2.2.2.2.2.2.2.2.2.2.2.2.2.2.2.2.2.2.1,r39.2.2.2.2.2.2.2.2.2.2.2.2.2.2.2.2.2.2.2.2.1,r39.2.2.2.2.2.2.2.2.2.2.2.2.2.2.2.2.2.2.2.2.2.1,r39.2.2.2.2.2.2.2.2.2.2.2.2.2.2.2.2.2.2.2.2.2.2.1,r39.2.2.2.2.2.2.2.2.2.2.2.2.2.2.2.2.2.2.2.2.2.2.2.1,r39.2.2.2.2.2.2.2.2.2.2.2.2.2.2.2.2.2.2.2.2.2.2.2.2.1,r39.2.2.2.2.2.2.2.2.2.2.2.2.2.2.2.2.2.2.2.2.2.2.2.2.2.1,r39.2.2.2.2.2.2.2.2.2.2.2.2.2.2.2.2.2.2.2.2.2.2.2.2.2.2.1,r39.2.2.2.2.2.2.2.2.2.2.2.2.2.2.2.2.2.2.2.2.2.2.2.2.2.2.2.1,r39.2.2.2.2.2.2.2.2.2.2.2.2.2.2.2.2.2.2.2.2.2.2.2.2.2.2.2.2.1,r39.2.2.2.2.2.2.2.2.2.2.2.2.2.2.2.2.2.2.2.2.2.2.2.2.2.2.2.2.2.1,r39.2.2.2.2.2.2.2.2.2.2.2.2.2.2.2.2.2.2.2.2.2.2.2.2.2.2.2.2.2.2.1,r39.2.2.2.2.2.2.2.2.2.2.2.2.2.2.2.2.2.2.2.2.2.2.2.2.2.2.2.2.2.2.2.1,r39.2.2.2.2.2.2.2.2.2.2.2.2.2.2.2.2.2.2.2.2.2.2.2.2.2.2.2.2.2.2.2.2.1,r39.2.2.2.2.2.2.2.2.2.2.2.2.2.2.2.2.2.2.2.2.2.2.2.2.2.2.2.2.2.2.2.2.2.1,r39.2.2.2.2.2.2.2.2.2.2.2.2.2.2.2.2.2.2.2.2.2.2.2.2.2.2.2.2.2.2.2.2.2.2.1,r39.2.2.2.2.2.2.2.2.2.2.2.2.2.2.2.2.2.2.2.2.2.2.2.2.2.2.2.2.2.2.2.2.2.2.2.1,r39.2.2.2.2.2.2.2.2.2.2.2.2.2.2.2.2.2.2.2.2.2.2.2.2.2.2.2.2.2.2.2.2.2.2.2.2.1,r39.2.2.2.2.2.2.2.2.2.2.2.2.2.2.2.2.2.2.2.2.2.2.2.2.2.2.2.2.2.2.2.2.2.2.2.2.2.1,r39.2.2.2.2.2.2.2.2.2.2.2.2.2.2.2.2.2.2.2.2.2.2.2.2.2.2.2.2.2.2.2.2.2.2.2.2.2.2)
 else
 (g17 r39.2.2.1 r39.2.2.2.1 r39.2.1 r39.1 (E0++[[AV.val (.int .u64 x38)]])).bind fun (r78:Int×LL×Int×Int×Int×LL×Int)=>
 if (cop .eql r78.2.2.2.2.2.2 0)=true then
 if (cop .eql r78.2.2.1 r39.2.1)=true then
 if (cop .eql r78.2.2.2.2.1 0)=true then
 if (cop .eql (List.length r78.2.2.2.2.2.1:Int) 1)=true then
 ZJ r78.2.2.2.2.2.1 0 [.int .u64] fun (r85:Int)=>
 if (cop .eql r85 x38)=true then
 (g73 r78.1 r78.2.1 r39.2.2.2.2.1 r39.2.2.2.2.2.1 r39.2.2.2.2.2.2.1 r39.2.2.2.2.2.2.2.1 r39.2.2.2.2.2.2.2.2.1 r39.2.2.2.2.2.2.2.2.2.1 r39.2.2.2.2.2.2.2.2.2.2.1 r39.2.2.2.2.2.2.2.2.2.2.2.1 r39.2.2.2.2.2.2.2.2.2.2.2.2.1 r39.2.2.2.2.2.2.2.2.2.2.2.2.2.1 r39.2.2.2.2.2.2.2.2.2.2.2.2.2.2.1 r39.2.2.2.2.2.2.2.2.2.2.2.2.2.2.2.1 r39.2.2.2.2.2.2.2.2.2.2.2.2.2.2.2.2.1 r39.2.2.2.2.2.2.2.2.2.2.2.2.2.2.2.2.2.1 r39.2.2.2.2.2.2.2.2.2.2.2.2.2.2.2.2.2.2.1 r39.2.2.2.2.2.2.2.2.2.2.2.2.2.2.2.2.2.2.2.1 r39.2.2.2.2.2.2.2.2.2.2.2.2.2.2.2.2.2.2.2.2.1 r39.2.2.2.2.2.2.2.2.2.2.2.2.2.2.2.2.2.2.2.2.2.1 r39.2.2.2.2.2.2.2.2.2.2.2.2.2.2.2.2.2.2.2.2.2.2.1 r39.2.2.2.2.2.2.2.2.2.2.2.2.2.2.2.2.2.2.2.2.2.2.2.1 r39.2.2.2.2.2.2.2.2.2.2.2.2.2.2.2.2.2.2.2.2.2.2.2.2.1 r39.2.2.2.2.2.2.2.2.2.2.2.2.2.2.2.2.2.2.2.2.2.2.2.2.2.1 r39.2.2.2.2.2.2.2.2.2.2.2.2.2.2.2.2.2.2.2.2.2.2.2.2.2.2.1 r39.2.2.2.2.2.2.2.2.2.2.2.2.2.2.2.2.2.2.2.2.2.2.2.2.2.2.2.1 r39.2.2.2.2.2.2.2.2.2.2.2.2.2.2.2.2.2.2.2.2.2.2.2.2.2.2.2.2.1 r39.2.2.2.2.2.2.2.2.2.2.2.2.2.2.2.2.2.2.2.2.2.2.2.2.2.2.2.2.2.1 r39.2.2.2.2.2.2.2.2.2.2.2.2.2.2.2.2.2.2.2.2.2.2.2.2.2.2.2.2.2.2.1 r39.2.2.2.2.2.2.2.2.2.2.2.2.2.2.2.2.2.2.2.2.2.2.2.2.2.2.2.2.2.2.2.1 r39.2.2.2.2.2.2.2.2.2.2.2.2.2.2.2.2.2.2.2.2.2.2.2.2.2.2.2.2.2.2.2.2.1 r39.2.2.2.2.2.2.2.2.2.2.2.2.2.2.2.2.2.2.2.2.2.2.2.2.2.2.2.2.2.2.2.2.2.1 r39.2.2.2.2.2.2.2.2.2.2.2.2.2.2.2.2.2.2.2.2.2.2.2.2.2.2.2.2.2.2.2.2.2.2.1 r39.2.2.2.2.2.2.2.2.2.2.2.2.2.2.2.2.2.2.2.2.2.2.2.2.2.2.2.2.2.2.2.2.2.2.2.1 r39.2.2.2.2.2.2.2.2.2.2.2.2.2.2.2.2.2.2.2.2.2.2.2.2.2.2.2.2.2.2.2.2.2.2.2.2.1 r39.2.2.2.2.2.2.2.2.2.2.2.2.2.2.2.2.2.2.2.2.2.2.2.2.2.2.2.2.2.2.2.2.2.2.2.2.2.1 r39.2.2.2.2.2.2.2.2.2.2.2.2.2.2.2.2.2.2.2.2.2.2.2.2.2.2.2.2.2.2.2.2.2.2.2.2.2.2 r78.2.2.1 r78.2.2.2.1 r78.2.2.2.2.1 r78.2.2.2.2.2.1).bind fun (r86:Bool×Int×LL×LL×LL×LL×Bool×Bool×Bool×Bool×Bool×Bool×Bool×Bool×Bool×Bool×Bool×Bool×Bool×Bool×Bool×Bool×Bool×Bool×Bool×Bool×Bool×Bool×Bool×Bool×Bool×Bool×Bool×Bool×Bool×Bool×Bool×Bool)=>
 some (r86.1,r86.2.1,r86.2.2.1,r86.2.2.2.1,r86.2.2.2.2.1,r86.2.2.2.2.2.1,r86.2.2.2.2.2.2.1,r86.2.2.2.2.2.2.2.1,r86.2.2.2.2.2.2.2.2.1,r86.2.2.2.2.2.2.2.2.2.1,r86.2.2.2.2.2.2.2.2.2.2.1,r86.2.2.2.2.2.2.2.2.2.2.2.1,r86.2.2.2.2.2.2.2.2.2.2.2.2.1,r86.2.2.2.2.2.2.2.2.2.2.2.2.2.1,r86.2.2.2.2.2.2.2.2.2.2.2.2.2.2.1,r86.2.2.2.2.2.2.2.2.2.2.2.2.2.2.2.1,r86.2.2.2.2.2.2.2.2.2.2.2.2.2.2.2.2.1,r86.2.2.2.2.2.2.2.2.2.2.2.2.2.2.2.2.2.1,r86.2.2.2.2.2.2.2.2.2.2.2.2.2.2.2.2.2.2.1,r86.2.2.2.2.2.2.2.2.2.2.2.2.2.2.2.2.2.2.2.1,r86.2.2.2.2.2.2.2.2.2.2.2.2.2.2.2.2.2.2.2.2.1,r86.2.2.2.2.2.2.2.2.2.2.2.2.2.2.2.2.2.2.2.2.2.1,r86.2.2.2.2.2.2.2.2.2.2.2.2.2.2.2.2.2.2.2.2.2.2.1,r86.2.2.2.2.2.2.2.2.2.2.2.2.2.2.2.2.2.2.2.2.2.2.2.1,r86.2.2.2.2.2.2.2.2.2.2.2.2.2.2.2.2.2.2.2.2.2.2.2.2.1,r86.2.2.2.2.2.2.2.2.2.2.2.2.2.2.2.2.2.2.2.2.2.2.2.2.2.1,r86.2.2.2.2.2.2.2.2.2.2.2.2.2.2.2.2.2.2.2.2.2.2.2.2.2.2.1,r86.2.2.2.2.2.2.2.2.2.2.2.2.2.2.2.2.2.2.2.2.2.2.2.2.2.2.2.1,r86.2.2.2.2.2.2.2.2.2.2.2.2.2.2.2.2.2.2.2.2.2.2.2.2.2.2.2.2.1,r86.2.2.2.2.2.2.2.2.2.2.2.2.2.2.2.2.2.2.2.2.2.2.2.2.2.2.2.2.2.1,r86.2.2.2.2.2.2.2.2.2.2.2.2.2.2.2.2.2.2.2.2.2.2.2.2.2.2.2.2.2.2.1,r86.2.2.2.2.2.2.2.2.2.2.2.2.2.2.2.2.2.2.2.2.2.2.2.2.2.2.2.2.2.2.2.1,r86.2.2.2.2.2.2.2.2.2.2.2.2.2.2.2.2.2.2.2.2.2.2.2.2.2.2.2.2.2.2.2.2.1,r86.2.2.2.2.2.2.2.2.2.2.2.2.2.2.2.2.2.2.2.2.2.2.2.2.2.2.2.2.2.2.2.2.2.1,r86.2.2.2.2.2.2.2.2.2.2.2.2.2.2.2.2.2.2.2.2.2.2.2.2.2.2.2.2.2.2.2.2.2.2.1,r86.2.2.2.2.2.2.2.2.2.2.2.2.2.2.2.2.2.2.2.2.2.2.2.2.2.2.2.2.2.2.2.2.2.2.2.1,r86.2.2.2.2.2.2.2.2.2.2.2.2.2.2.2.2.2.2.2.2.2.2.2.2.2.2.2.2.2.2.2.2.2.2.2.2.1,r86.2.2.2.2.2.2.2.2.2.2.2.2.2.2.2.2.2.2.2.2.2.2.2.2.2.2.2.2.2.2.2.2.2.2.2.2.2)
 else
 some (false,r78.1,r78.2.1,r39.2.2.2.2.1,r39.2.2.2.2.2.1,r39.2.2.2.2.2.2.1,r39.2.2.2.2.2.2.2.1,r39.2.2.2.2.2.2.2.2.1,r39.2.2.2.2.2.2.2.2.2.1,r39.2.2.2.2.2.2.2.2.2.2.1,r39.2.2.2.2.2.2.2.2.2.2.2.1,r39.2.2.2.2.2.2.2.2.2.2.2.2.1,r39.2.2.2.2.2.2.2.2.2.2.2.2.2.1,r39.2.2.2.2.2.2.2.2.2.2.2.2.2.2.1,r39.2.2.2.2.2.2.2.2.2.2.2.2.2.2.2.1,r39.2.2.2.2.2.2.2.2.2.2.2.2.2.2.2.2.1,r39.2.2.2.2.2.2.2.2.2.2.2.2.2.2.2.2.2.1,r39.2.2.2.2.2.2.2.2.2.2.2.2.2.2.2.2.2.2.1,r39.2.2.2.2.2.2.2.2.2.2.2.2.2.2.2.2.2.2.2.1,r39.2.2.2.2.2.2.2.2.2.2.2.2.2.2.2.2.2.2.2.2.1,r39.2.2.2.2.2.2.2.2.2.2.2.2.2.2.2.2.2.2.2.2.2.1,r39.2.2.2.2.2.2.2.2.2.2.2.2.2.2.2.2.2.2.2.2.2.2.1,r39.2.2.2.2.2.2.2.2.2.2.2.2.2.2.2.2.2.2.2.2.2.2.2.1,r39.2.2.2.2.2.2.2.2.2.2.2.2.2.2.2.2.2.2.2.2.2.2.2.2.1,r39.2.2.2.2.2.2.2.2.2.2.2.2.2.2.2.2.2.2.2.2.2.2.2.2.2.1,r39.2.2.2.2.2.2.2.2.2.2.2.2.2.2.2.2.2.2.2.2.2.2.2.2.2.2.1,r39.2.2.2.2.2.2.2.2.2.2.2.2.2.2.2.2.2.2.2.2.2.2.2.2.2.2.2.1,r39.2.2.2.2.2.2.2.2.2.2.2.2.2.2.2.2.2.2.2.2.2.2.2.2.2.2.2.2.1,r39.2.2.2.2.2.2.2.2.2.2.2.2.2.2.2.2.2.2.2.2.2.2.2.2.2.2.2.2.2.1,r39.2.2.2.2.2.2.2.2.2.2.2.2.2.2.2.2.2.2.2.2.2.2.2.2.2.2.2.2.2.2.1,r39.2.2.2.2.2.2.2.2.2.2.2.2.2.2.2.2.2.2.2.2.2.2.2.2.2.2.2.2.2.2.2.1,r39.2.2.2.2.2.2.2.2.2.2.2.2.2.2.2.2.2.2.2.2.2.2.2.2.2.2.2.2.2.2.2.2.1,r39.2.2.2.2.2.2.2.2.2.2.2.2.2.2.2.2.2.2.2.2.2.2.2.2.2.2.2.2.2.2.2.2.2.1,r39.2.2.2.2.2.2.2.2.2.2.2.2.2.2.2.2.2.2.2.2.2.2.2.2.2.2.2.2.2.2.2.2.2.2.1,r39.2.2.2.2.2.2.2.2.2.2.2.2.2.2.2.2.2.2.2.2.2.2.2.2.2.2.2.2.2.2.2.2.2.2.2.1,r39.2.2.2.2.2.2.2.2.2.2.2.2.2.2.2.2.2.2.2.2.2.2.2.2.2.2.2.2.2.2.2.2.2.2.2.2.1,r39.2.2.2.2.2.2.2.2.2.2.2.2.2.2.2.2.2.2.2.2.2.2.2.2.2.2.2.2.2.2.2.2.2.2.2.2.2.1,r39.2.2.2.2.2.2.2.2.2.2.2.2.2.2.2.2.2.2.2.2.2.2.2.2.2.2.2.2.2.2.2.2.2.2.2.2.2.2)
 else
 some (false,r78.1,r78.2.1,r39.2.2.2.2.1,r39.2.2.2.2.2.1,r39.2.2.2.2.2.2.1,r39.2.2.2.2.2.2.2.1,r39.2.2.2.2.2.2.2.2.1,r39.2.2.2.2.2.2.2.2.2.1,r39.2.2.2.2.2.2.2.2.2.2.1,r39.2.2.2.2.2.2.2.2.2.2.2.1,r39.2.2.2.2.2.2.2.2.2.2.2.2.1,r39.2.2.2.2.2.2.2.2.2.2.2.2.2.1,r39.2.2.2.2.2.2.2.2.2.2.2.2.2.2.1,r39.2.2.2.2.2.2.2.2.2.2.2.2.2.2.2.1,r39.2.2.2.2.2.2.2.2.2.2.2.2.2.2.2.2.1,r39.2.2.2.2.2.2.2.2.2.2.2.2.2.2.2.2.2.1,r39.2.2.2.2.2.2.2.2.2.2.2.2.2.2.2.2.2.2.1,r39.2.2.2.2.2.2.2.2.2.2.2.2.2.2.2.2.2.2.2.1,r39.2.2.2.2.2.2.2.2.2.2.2.2.2.2.2.2.2.2.2.2.1,r39.2.2.2.2.2.2.2.2.2.2.2.2.2.2.2.2.2.2.2.2.2.1,r39.2.2.2.2.2.2.2.2.2.2.2.2.2.2.2.2.2.2.2.2.2.2.1,r39.2.2.2.2.2.2.2.2.2.2.2.2.2.2.2.2.2.2.2.2.2.2.2.1,r39.2.2.2.2.2.2.2.2.2.2.2.2.2.2.2.2.2.2.2.2.2.2.2.2.1,r39.2.2.2.2.2.2.2.2.2.2.2.2.2.2.2.2.2.2.2.2.2.2.2.2.2.1,r39.2.2.2.2.2.2.2.2.2.2.2.2.2.2.2.2.2.2.2.2.2.2.2.2.2.2.1,r39.2.2.2.2.2.2.2.2.2.2.2.2.2.2.2.2.2.2.2.2.2.2.2.2.2.2.2.1,r39.2.2.2.2.2.2.2.2.2.2.2.2.2.2.2.2.2.2.2.2.2.2.2.2.2.2.2.2.1,r39.2.2.2.2.2.2.2.2.2.2.2.2.2.2.2.2.2.2.2.2.2.2.2.2.2.2.2.2.2.1,r39.2.2.2.2.2.2.2.2.2.2.2.2.2.2.2.2.2.2.2.2.2.2.2.2.2.2.2.2.2.2.1,r39.2.2.2.2.2.2.2.2.2.2.2.2.2.2.2.2.2.2.2.2.2.2.2.2.2.2.2.2.2.2.2.1,r39.2.2.2.2.2.2.2.2.2.2.2.2.2.2.2.2.2.2.2.2.2.2.2.2.2.2.2.2.2.2.2.2.1,r39.2.2.2.2.2.2.2.2.2.2.2.2.2.2.2.2.2.2.2.2.2.2.2.2.2.2.2.2.2.2.2.2.2.1,r39.2.2.2.2.2.2.2.2.2.2.2.2.2.2.2.2.2.2.2.2.2.2.2.2.2.2.2.2.2.2.2.2.2.2.1,r39.2.2.2.2.2.2.2.2.2.2.2.2.2.2.2.2.2.2.2.2.2.2.2.2.2.2.2.2.2.2.2.2.2.2.2.1,r39.2.2.2.2.2.2.2.2.2.2.2.2.2.2.2.2.2.2.2.2.2.2.2.2.2.2.2.2.2.2.2.2.2.2.2.2.1,r39.2.2.2.2.2.2.2.2.2.2.2.2.2.2.2.2.2.2.2.2.2.2.2.2.2.2.2.2.2.2.2.2.2.2.2.2.2.1,r39.2.2.2.2.2.2.2.2.2.2.2.2.2.2.2.2.2.2.2.2.2.2.2.2.2.2.2.2.2.2.2.2.2.2.2.2.2.2)
 else
 some (false,r78.1,r78.2.1,r39.2.2.2.2.1,r39.2.2.2.2.2.1,r39.2.2.2.2.2.2.1,r39.2.2.2.2.2.2.2.1,r39.2.2.2.2.2.2.2.2.1,r39.2.2.2.2.2.2.2.2.2.1,r39.2.2.2.2.2.2.2.2.2.2.1,r39.2.2.2.2.2.2.2.2.2.2.2.1,r39.2.2.2.2.2.2.2.2.2.2.2.2.1,r39.2.2.2.2.2.2.2.2.2.2.2.2.2.1,r39.2.2.2.2.2.2.2.2.2.2.2.2.2.2.1,r39.2.2.2.2.2.2.2.2.2.2.2.2.2.2.2.1,r39.2.2.2.2.2.2.2.2.2.2.2.2.2.2.2.2.1,r39.2.2.2.2.2.2.2.2.2.2.2.2.2.2.2.2.2.1,r39.2.2.2.2.2.2.2.2.2.2.2.2.2.2.2.2.2.2.1,r39.2.2.2.2.2.2.2.2.2.2.2.2.2.2.2.2.2.2.2.1,r39.2.2.2.2.2.2.2.2.2.2.2.2.2.2.2.2.2.2.2.2.1,r39.2.2.2.2.2.2.2.2.2.2.2.2.2.2.2.2.2.2.2.2.2.1,r39.2.2.2.2.2.2.2.2.2.2.2.2.2.2.2.2.2.2.2.2.2.2.1,r39.2.2.2.2.2.2.2.2.2.2.2.2.2.2.2.2.2.2.2.2.2.2.2.1,r39.2.2.2.2.2.2.2.2.2.2.2.2.2.2.2.2.2.2.2.2.2.2.2.2.1,r39.2.2.2.2.2.2.2.2.2.2.2.2.2.2.2.2.2.2.2.2.2.2.2.2.2.1,r39.2.2.2.2.2.2.2.2.2.2.2.2.2.2.2.2.2.2.2.2.2.2.2.2.2.2.1,r39.2.2.2.2.2.2.2.2.2.2.2.2.2.2.2.2.2.2.2.2.2.2.2.2.2.2.2.1,r39.2.2.2.2.2.2.2.2.2.2.2.2.2.2.2.2.2.2.2.2.2.2.2.2.2.2.2.2.1,r39.2.2.2.2.2.2.2.2.2.2.2.2.2.2.2.2.2.2.2.2.2.2.2.2.2.2.2.2.2.1,r39.2.2.2.2.2.2.2.2.2.2.2.2.2.2.2.2.2.2.2.2.2.2.2.2.2.2.2.2.2.2.1,r39.2.2.2.2.2.2.2.2.2.2.2.2.2.2.2.2.2.2.2.2.2.2.2.2.2.2.2.2.2.2.2.1,r39.2.2.2.2.2.2.2.2.2.2.2.2.2.2.2.2.2.2.2.2.2.2.2.2.2.2.2.2.2.2.2.2.1,r39.2.2.2.2.2.2.2.2.2.2.2.2.2.2.2.2.2.2.2.2.2.2.2.2.2.2.2.2.2.2.2.2.2.1,r39.2.2.2.2.2.2.2.2.2.2.2.2.2.2.2.2.2.2.2.2.2.2.2.2.2.2.2.2.2.2.2.2.2.2.1,r39.2.2.2.2.2.2.2.2.2.2.2.2.2.2.2.2.2.2.2.2.2.2.2.2.2.2.2.2.2.2.2.2.2.2.2.1,r39.2.2.2.2.2.2.2.2.2.2.2.2.2.2.2.2.2.2.2.2.2.2.2.2.2.2.2.2.2.2.2.2.2.2.2.2.1,r39.2.2.2.2.2.2.2.2.2.2.2.2.2.2.2.2.2.2.2.2.2.2.2.2.2.2.2.2.2.2.2.2.2.2.2.2.2.1,r39.2.2.2.2.2.2.2.2.2.2.2.2.2.2.2.2.2.2.2.2.2.2.2.2.2.2.2.2.2.2.2.2.2.2.2.2.2.2)
 else
 some (false,r78.1,r78.2.1,r39.2.2.2.2.1,r39.2.2.2.2.2.1,r39.2.2.2.2.2.2.1,r39.2.2.2.2.2.2.2.1,r39.2.2.2.2.2.2.2.2.1,r39.2.2.2.2.2.2.2.2.2.1,r39.2.2.2.2.2.2.2.2.2.2.1,r39.2.2.2.2.2.2.2.2.2.2.2.1,r39.2.2.2.2.2.2.2.2.2.2.2.2.1,r39.2.2.2.2.2.2.2.2.2.2.2.2.2.1,r39.2.2.2.2.2.2.2.2.2.2.2.2.2.2.1,r39.2.2.2.2.2.2.2.2.2.2.2.2.2.2.2.1,r39.2.2.2.2.2.2.2.2.2.2.2.2.2.2.2.2.1,r39.2.2.2.2.2.2.2.2.2.2.2.2.2.2.2.2.2.1,r39.2.2.2.2.2.2.2.2.2.2.2.2.2.2.2.2.2.2.1,r39.2.2.2.2.2.2.2.2.2.2.2.2.2.2.2.2.2.2.2.1,r39.2.2.2.2.2.2.2.2.2.2.2.2.2.2.2.2.2.2.2.2.1,r39.2.2.2.2.2.2.2.2.2.2.2.2.2.2.2.2.2.2.2.2.2.1,r39.2.2.2.2.2.2.2.2.2.2.2.2.2.2.2.2.2.2.2.2.2.2.1,r39.2.2.2.2.2.2.2.2.2.2.2.2.2.2.2.2.2.2.2.2.2.2.2.1,r39.2.2.2.2.2.2.2.2.2.2.2.2.2.2.2.2.2.2.2.2.2.2.2.2.1,r39.2.2.2.2.2.2.2.2.2.2.2.2.2.2.2.2.2.2.2.2.2.2.2.2.2.1,r39.2.2.2.2.2.2.2.2.2.2.2.2.2.2.2.2.2.2.2.2.2.2.2.2.2.2.1,r39.2.2.2.2.2.2.2.2.2.2.2.2.2.2.2.2.2.2.2.2.2.2.2.2.2.2.2.1,r39.2.2.2.2.2.2.2.2.2.2.2.2.2.2.2.2.2.2.2.2.2.2.2.2.2.2.2.2.1,r39.2.2.2.2.2.2.2.2.2.2.2.2.2.2.2.2.2.2.2.2.2.2.2.2.2.2.2.2.2.1,r39.2.2.2.2.2.2.2.2.2.2.2.2.2.2.2.2.2.2.2.2.2.2.2.2.2.2.2.2.2.2.1,r39.2.2.2.2.2.2.2.2.2.2.2.2.2.2.2.2.2.2.2.2.2.2.2.2.2.2.2.2.2.2.2.1,r39.2.2.2.2.2.2.2.2.2.2.2.2.2.2.2.2.2.2.2.2.2.2.2.2.2.2.2.2.2.2.2.2.1,r39.2.2.2.2.2.2.2.2.2.2.2.2.2.2.2.2.2.2.2.2.2.2.2.2.2.2.2.2.2.2.2.2.2.1,r39.2.2.2.2.2.2.2.2.2.2.2.2.2.2.2.2.2.2.2.2.2.2.2.2.2.2.2.2.2.2.2.2.2.2.1,r39.2.2.2.2.2.2.2.2.2.2.2.2.2.2.2.2.2.2.2.2.2.2.2.2.2.2.2.2.2.2.2.2.2.2.2.1,r39.2.2.2.2.2.2.2.2.2.2.2.2.2.2.2.2.2.2.2.2.2.2.2.2.2.2.2.2.2.2.2.2.2.2.2.2.1,r39.2.2.2.2.2.2.2.2.2.2.2.2.2.2.2.2.2.2.2.2.2.2.2.2.2.2.2.2.2.2.2.2.2.2.2.2.2.1,r39.2.2.2.2.2.2.2.2.2.2.2.2.2.2.2.2.2.2.2.2.2.2.2.2.2.2.2.2.2.2.2.2.2.2.2.2.2.2)
 else
 some (false,r78.1,r78.2.1,r39.2.2.2.2.1,r39.2.2.2.2.2.1,r39.2.2.2.2.2.2.1,r39.2.2.2.2.2.2.2.1,r39.2.2.2.2.2.2.2.2.1,r39.2.2.2.2.2.2.2.2.2.1,r39.2.2.2.2.2.2.2.2.2.2.1,r39.2.2.2.2.2.2.2.2.2.2.2.1,r39.2.2.2.2.2.2.2.2.2.2.2.2.1,r39.2.2.2.2.2.2.2.2.2.2.2.2.2.1,r39.2.2.2.2.2.2.2.2.2.2.2.2.2.2.1,r39.2.2.2.2.2.2.2.2.2.2.2.2.2.2.2.1,r39.2.2.2.2.2.2.2.2.2.2.2.2.2.2.2.2.1,r39.2.2.2.2.2.2.2.2.2.2.2.2.2.2.2.2.2.1,r39.2.2.2.2.2.2.2.2.2.2.2.2.2.2.2.2.2.2.1,r39.2.2.2.2.2.2.2.2.2.2.2.2.2.2.2.2.2.2.2.1,r39.2.2.2.2.2.2.2.2.2.2.2.2.2.2.2.2.2.2.2.2.1,r39.2.2.2.2.2.2.2.2.2.2.2.2.2.2.2.2.2.2.2.2.2.1,r39.2.2.2.2.2.2.2.2.2.2.2.2.2.2.2.2.2.2.2.2.2.2.1,r39.2.2.2.2.2.2.2.2.2.2.2.2.2.2.2.2.2.2.2.2.2.2.2.1,r39.2.2.2.2.2.2.2.2.2.2.2.2.2.2.2.2.2.2.2.2.2.2.2.2.1,r39.2.2.2.2.2.2.2.2.2.2.2.2.2.2.2.2.2.2.2.2.2.2.2.2.2.1,r39.2.2.2.2.2.2.2.2.2.2.2.2.2.2.2.2.2.2.2.2.2.2.2.2.2.2.1,r39.2.2.2.2.2.2.2.2.2.2.2.2.2.2.2.2.2.2.2.2.2.2.2.2.2.2.2.1,r39.2.2.2.2.2.2.2.2.2.2.2.2.2.2.2.2.2.2.2.2.2.2.2.2.2.2.2.2.1,r39.2.2.2.2.2.2.2.2.2.2.2.2.2.2.2.2.2.2.2.2.2.2.2.2.2.2.2.2.2.1,r39.2.2.2.2.2.2.2.2.2.2.2.2.2.2.2.2.2.2.2.2.2.2.2.2.2.2.2.2.2.2.1,r39.2.2.2.2.2.2.2.2.2.2.2.2.2.2.2.2.2.2.2.2.2.2.2.2.2.2.2.2.2.2.2.1,r39.2.2.2.2.2.2.2.2.2.2.2.2.2.2.2.2.2.2.2.2.2.2.2.2.2.2.2.2.2.2.2.2.1,r39.2.2.2.2.2.2.2.2.2.2.2.2.2.2.2.2.2.2.2.2.2.2.2.2.2.2.2.2.2.2.2.2.2.1,r39.2.2.2.2.2.2.2.2.2.2.2.2.2.2.2.2.2.2.2.2.2.2.2.2.2.2.2.2.2.2.2.2.2.2.1,r39.2.2.2.2.2.2.2.2.2.2.2.2.2.2.2.2.2.2.2.2.2.2.2.2.2.2.2.2.2.2.2.2.2.2.2.1,r39.2.2.2.2.2.2.2.2.2.2.2.2.2.2.2.2.2.2.2.2.2.2.2.2.2.2.2.2.2.2.2.2.2.2.2.2.1,r39.2.2.2.2.2.2.2.2.2.2.2.2.2.2.2.2.2.2.2.2.2.2.2.2.2.2.2.2.2.2.2.2.2.2.2.2.2.1,r39.2.2.2.2.2.2.2.2.2.2.2.2.2.2.2.2.2.2.2.2.2.2.2.2.2.2.2.2.2.2.2.2.2.2.2.2.2.2)):=by kernel_rfl
end Go.Proofs.Ytigknndkmlhmfaa
end
