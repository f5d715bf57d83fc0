/- La, Lb, Lc, Ld, Le, Lf, Lg, Lh, Li, Lj, EndL, Lp1, Lp2, Lp3, Lp4, Lp5: texts of the proof, put together. -/
import Derived.Test.YtigknndkmlhmfaaGL
import Derived.Test.YtigknndkmlhmfaaRows
import Derived.Test.YtigknndkmlhmfaaChecked
import Derived.Test.YtigknndkmlhmfaaM5
import Derived.JoinedOf
import Derived.JoinedAt
import Derived.RowKit3
import Derived.KernelRfl

section
namespace Go.Proofs.Ytigknndkmlhmfaa
open Go Go.AM
set_option linter.unusedVariables false
set_option maxRecDepth 100000
noncomputable def F65:Fn:=⟨8,[2],[],[],0,[2,5,7],[],Try.f65,[.c (.slice 4)],[.c (.own true 80)],[]⟩
theorem Zon:F65.S.Ok Try.prog 65:=F65.ok Try.func65 (by kernel_rfl) trivial
noncomputable def g65 (x0:LL):Option (LL):=F65.S.g [.l x0]
theorem ZmY (x0:LL):g65 x0 =
 (ZgO x0 fun r1=>
 if r1=true then
 some (E0)
 else
 ZF (YT E0 x0 64)<|
 some ((E0++x0))):=by kernel_rfl
noncomputable def F75:Fn:=⟨8,[2],[],[],0,[2,5,7],[],Try.f75,[.c (.slice 4)],[.c (.own true 41)],[]⟩
theorem Zok:F75.S.Ok Try.prog 75:=F75.ok Try.func75 (by kernel_rfl) trivial
noncomputable def g75 (x0:LL):Option (LL):=F75.S.g [.l x0]
theorem Zm5 (x0:LL):g75 x0 =
 (ZgO x0 fun r1=>
 if r1=true then
 some (E0)
 else
 ZF (YT E0 x0 48)<|
 some ((E0++x0))):=by kernel_rfl
noncomputable def F43:Fn:=⟨8,[2],[],[],0,[],[],Try.f43,[.c (.slice 1)],[.c (.own false 44)],[]⟩
theorem Znq:F43.S.Ok Try.prog 43:=F43.ok Try.func43 (by kernel_rfl) trivial
noncomputable def g43 (x0:LL):Option (LL):=F43.S.g [.l x0]
theorem Zmo (x0:LL):g43 x0 =
 (ZgO x0 fun r1=>
 if r1=true then
 some (E0)
 else
 ZF (YT E0 x0 8)<|
 some ((E0++x0))):=by kernel_rfl
noncomputable def F66:Fn:=⟨24,[2],[(3,[(3,.c (.own true 41)),(8,.c (.int .i64)),(9,.c (.int .i64))])],[],0,[2],[],Try.f66,[.c (.slice 4)],[.c (.own true 41)],[(75,F75.S),(43,F43.S)]⟩
theorem Zoo:F66.S.Ok Try.prog 66:=F66.ok Try.func66 (by kernel_rfl) ⟨Zok,⟨Znq,trivial⟩⟩
noncomputable def g66 (x0:LL):Option (LL):=F66.S.g [.l x0]
noncomputable def Zkm (k:Nat) (x0:LL) (x1:Int) (x2:Int):Option (LL):=F66.lp [2] 0 r0 k [.l x0,.i x1,.i x2]
theorem Zkn (k:Nat) (x0:LL) (x1:Int) (x2:Int):Zkm (k+1) x0 x1 x2 =
 (if (cop .lss x2 x1)=true then
 ZF ((0:Int)≤x2)<|
 ZF ((x2:Int) < (List.length x0:Int))<|
 Jq x0 x2 [.int .i64,.int .i64,.slice 1,.int .i64] fun (r3:Int×Int×LL×Int)=>
 (g43 r3.2.2.1).bind fun (r7:LL)=>
 ZF ((0:Int)≤x2)<|
 ZF ((x2:Int) < (List.length x0:Int))<|
 ZF ((0:Int)≤x2)<|
 ZF ((x2:Int) < (List.length x0:Int))<|
 Zkm k (ZC x0 (Int.toNat x2) 2 [AV.slice false 1 r7]) x1 (iop .add .i64 x2 1)
 else
 some (x0)):=by kernel_rfl
theorem Zng (x0:LL):g66 x0 =
 ((g75 x0).bind fun (r1:LL)=>
 Zkm WL r1 (List.length r1:Int) 0):=by kernel_rfl
noncomputable def F40:Fn:=⟨35,[2],[(3,[(1,.box [.int .i64,.own true 2097232]),(2,.box [.int .i64,.slice 4]),(10,.mref 1 2),(11,.c (.int .i64)),(12,.c (.int .i64))])],[],0,[],[(2,[(1,1002)])],Try.f40,[.agg [.int .i64,.slice 4]],[.aggo [.int .i64,.own true 2097232]],[(65,F65.S),(66,F66.S)]⟩
theorem Znm:F40.S.Ok Try.prog 40:=F40.ok Try.func40 (by kernel_rfl) ⟨Zon,⟨Zoo,trivial⟩⟩
noncomputable def g40 (x0:Int) (x1:LL):Option (Int×LL):=F40.S.g [.i x0,.l x1]
noncomputable def Zkh (k:Nat) (x0:Int) (x1:LL) (x2:Int) (x3:LL) (x4:Int) (x5:Int):Option (Int×LL):=F40.lp [2] 0 r0 k [.i x0,.l x1,.i x2,.l x3,.i x4,.i x5]
theorem ZjD (k:Nat) (x0:Int) (x1:LL) (x2:Int) (x3:LL) (x4:Int) (x5:Int):Zkh (k+1) x0 x1 x2 x3 x4 x5 =
 (if (cop .lss x5 x4)=true then
 ZF ((0:Int)≤x5)<|
 ZF ((x5:Int) < (List.length x1:Int))<|
 Jq (Zjn (KH x1 (Int.toNat x5) 0 4) 0 4) x5 [.int .i64,.int .i64,.slice 4,.slice 4] fun (r6:Int×Int×LL×LL)=>
 (g66 r6.2.2.1).bind fun (r10:LL)=>
 ZF ((0:Int)≤x5)<|
 ZF ((x5:Int) < (List.length (KH x1 (Int.toNat x5) 0 4):Int))<|
 ZF ((0:Int)≤x5)<|
 ZF ((x5:Int) < (List.length (KH x1 (Int.toNat x5) 0 4):Int))<|
 (g66 r6.2.2.2).bind fun (r11:LL)=>
 ZF ((0:Int)≤x5)<|
 ZF ((x5:Int) < (List.length (Yl (KH x1 (Int.toNat x5) 0 4) (Int.toNat x5) 2 (AV.nest 4 true 41 r10)):Int))<|
 ZF ((0:Int)≤x5)<|
 ZF ((x5:Int) < (List.length (Yl (KH x1 (Int.toNat x5) 0 4) (Int.toNat x5) 2 (AV.nest 4 true 41 r10)):Int))<|
 Zkh k x0 (Yl (Yl (KH x1 (Int.toNat x5) 0 4) (Int.toNat x5) 2 (AV.nest 4 true 41 r10)) (Int.toNat x5) 3 (AV.nest 4 true 41 r11)) x2 x3 x4 (iop .add .i64 x5 1)
 else
 some (x0,x1)):=by kernel_rfl
theorem Zmy (x0:Int) (x1:LL):g40 x0 x1 =
 ((g65 x1).bind fun (r2:LL)=>
 Zkh WL x0 (Zjc r2) 0 E0 (List.length (Zjc r2):Int) 0):=by kernel_rfl
end Go.Proofs.Ytigknndkmlhmfaa
end

section
namespace Go.Proofs.Ytigknndkmlhmfaa
open Go Go.AM
set_option linter.unusedVariables false
set_option maxRecDepth 100000
def Zg7:Go.Shelf.Ren:=⟨fun | 4=>70 | n=>n,fun | 25=>41 | 0=>0 | 3=>3 | 4=>4 | 9=>9 | 20=>20 | 22=>62 | n=>n,fun | n=>n⟩
theorem Zm0:Go.Proofs.Lays8.n4 Try.prog Zg7:={
 mixed:=by kernel_rfl
 f4:=⟨Try.f70.name,by decide,Try.func70.trans (congrArg some (by kernel_rfl))⟩
 t0:=Try.underlying0
 a0:=Try.isAgg0
 z0:=Try.sizeOf0
 v0:=Try.zeroValue0
 t3:=Try.underlying3
 a3:=Try.isAgg3
 z3:=Try.sizeOf3
 v3:=Try.zeroValue3
 t4:=Try.underlying4
 a4:=Try.isAgg4
 z4:=Try.sizeOf4
 v4:=Try.zeroValue4
 t9:=Try.underlying9
 a9:=Try.isAgg9
 z9:=Try.sizeOf9
 v9:=Try.zeroValue9
 t20:=Try.underlying20
 a20:=Try.isAgg20
 z20:=Try.sizeOf20
 v20:=Try.zeroValue20
 t22:=Try.underlying62
 a22:=Try.isAgg62
 z22:=Try.sizeOf62
 v22:=Try.zeroValue62 }
noncomputable def F70.S:Fun:=ZmQ 41 48
theorem Zof:F70.S.Ok Try.prog 70:=Zkk Zm0 (by kernel_rfl) rfl rfl ⟨Try.f70,Try.func70,by kernel_rfl,by kernel_rfl⟩
noncomputable def g70 (x0:LL) (x1:Int):Option LL:=F70.S.g [.l x0,.i x1]
theorem ZmI (x0:LL) (x1:Int):g70 x0 x1=Zlj 48 x0 x1:=rfl
noncomputable def F44:Fn:=⟨36,[2],[(3,[(0,.c (.slice 1)),(3,.c (.int .i64)),(9,.c (.slice 1)),(10,.c (.int .i64)),(11,.c (.int .i64))]),(11,[(6,.c (.own true 41)),(25,.c (.slice 1)),(26,.c (.int .i64)),(27,.c (.int .i64))])],[],0,[2,33],[],Try.f44,[.c (.slice 1)],[.c (.own true 41)],[(70,F70.S)]⟩
theorem Zol:F44.S.Ok Try.prog 44:=F44.ok Try.func44 (by kernel_rfl) ⟨Zof,trivial⟩
noncomputable def g44 (x0:LL):Option (LL):=F44.S.g [.l x0]
noncomputable def Zlw (k:Nat) (x0:LL) (x1:LL) (x2:Int) (x3:Int):Option (LL):=F44.lp [0,1,2] 0 r0 k [.l x0,.l x1,.i x2,.i x3]
theorem ZcS (k:Nat) (x0:LL) (x1:LL) (x2:Int) (x3:Int):Zlw (k+1) x0 x1 x2 x3 =
 (if (cop .lss x3 x2)=true then
 Jq x1 x3 [.slice 4] fun (r4:LL)=>
 ZF (YT x0 r4 48)<|
 Zlw k (x0++r4) x1 x2 (iop .add .i64 x3 1)
 else
 some (x0)):=by kernel_rfl
noncomputable def Zli (k:Nat) (x0:LL) (x1:Int) (x2:LL) (x3:Int) (x4:Int):Option (LL):=F44.lp [0] 0 r0 k [.l x0,.i x1,.l x2,.i x3,.i x4]
theorem Zdw (k:Nat) (x0:LL) (x1:Int) (x2:LL) (x3:Int) (x4:Int):Zli (k+1) x0 x1 x2 x3 x4 =
 (if (cop .lss x4 x3)=true then
 Jq x2 x4 [.slice 4] fun (r5:LL)=>
 if (cop .lss (iop .add .i64 x1 (List.length r5:Int)) 0)=true then
 none
 else
 Zli k x0 (iop .add .i64 x1 (List.length r5:Int)) x2 x3 (iop .add .i64 x4 1)
 else
 (g70 E0 x1).bind fun (r5:LL)=>
 Zlw WL r5 x0 (List.length x0:Int) 0):=by kernel_rfl
theorem ZmU (x0:LL):g44 x0 =
 (Zli WL x0 0 x0 (List.length x0:Int) 0):=by kernel_rfl
noncomputable def F37:Fn:=⟨9,[2],[],[],0,[],[],Try.f37,[.c (.int .i64)],[.c (.bool)],[]⟩
theorem ZnZ:F37.S.Ok Try.prog 37:=F37.ok Try.func37 (by kernel_rfl) trivial
noncomputable def g37 (x0:Int):Option (Bool):=F37.S.g [.i x0]
theorem Zne (x0:Int):g37 x0 =
 (if (cop .geq x0 0)=true then
 some ((cop .leq x0 1099511627775))
 else
 some (false)):=by kernel_rfl
noncomputable def F38:Fn:=⟨9,[2],[],[],0,[],[],Try.f38,[.c (.int .i64)],[.c (.bool)],[]⟩
theorem ZnB:F38.S.Ok Try.prog 38:=F38.ok Try.func38 (by kernel_rfl) trivial
noncomputable def g38 (x0:Int):Option (Bool):=F38.S.g [.i x0]
theorem Zmp (x0:Int):g38 x0 =
 (if (cop .geq x0 0)=true then
 some ((cop .lss x0 32))
 else
 some (false)):=by kernel_rfl
noncomputable def F69:Fn:=⟨27,[2],[],[],0,[],[],Try.f69,[.agg [.int .i64,.int .i64,.slice 1,.int .i64]],[.c (.bool)],[(38,F38.S)]⟩
theorem ZnX:F69.S.Ok Try.prog 69:=F69.ok Try.func69 (by kernel_rfl) ⟨ZnB,trivial⟩
noncomputable def g69 (x0:Int) (x1:Int) (x2:LL) (x3:Int):Option (Bool):=F69.S.g [.i x0,.i x1,.l x2,.i x3]
theorem ZmL (x0:Int) (x1:Int) (x2:LL) (x3:Int):g69 x0 x1 x2 x3 =
 (if (cop .geq x0 0)=true then
 (g38 x1).bind fun (r4:Bool)=>
 if r4=true then
 if (cop .leq (List.length x2:Int) 8)=true then
 if (cop .geq x3 (-1))=true then
 some ((cop .lss x3 64))
 else
 some (false)
 else
 some (false)
 else
 some (false)
 else
 some (false)):=by kernel_rfl
noncomputable def F52:Fn:=⟨38,[2],[(4,[(1,.box [.int .i64,.int .i64,.slice 4,.slice 4]),(12,.c (.slice 4)),(13,.c (.int .i64)),(14,.c (.int .i64))]),(10,[(23,.c (.slice 4)),(24,.c (.int .i64)),(25,.c (.int .i64))])],[],0,[],[],Try.f52,[.agg [.int .i64,.int .i64,.slice 4,.slice 4]],[.c (.bool)],[(69,F69.S)]⟩
theorem Zoe:F52.S.Ok Try.prog 52:=F52.ok Try.func52 (by kernel_rfl) ⟨ZnX,trivial⟩
noncomputable def g52 (x0:Int) (x1:Int) (x2:LL) (x3:LL):Option (Bool):=F52.S.g [.i x0,.i x1,.l x2,.l x3]
noncomputable def Zi3 (k:Nat) (x0:LL) (x1:Int) (x2:Int):Option (Bool):=F52.lp [1,0,1,0] 0 r0 k [.l x0,.i x1,.i x2]
theorem ZjL (k:Nat) (x0:LL) (x1:Int) (x2:Int):Zi3 (k+1) x0 x1 x2 =
 (if (cop .lss x2 x1)=true then
 Jq x0 x2 [.int .i64,.int .i64,.slice 1,.int .i64] fun (r3:Int×Int×LL×Int)=>
 (g69 r3.1 r3.2.1 r3.2.2.1 r3.2.2.2).bind fun (r7:Bool)=>
 if (!r7)=true then
 some (false)
 else
 if (cop .eql r3.1 0)=true then
 some (false)
 else
 Zi3 k x0 x1 (iop .add .i64 x2 1)
 else
 some (true)):=by kernel_rfl
noncomputable def Zke (k:Nat) (x0:Int) (x1:Int) (x2:LL) (x3:LL) (x4:LL) (x5:Int) (x6:Int):Option (Bool):=F52.lp [1,0] 0 r0 k [.i x0,.i x1,.l x2,.l x3,.l x4,.i x5,.i x6]
theorem ZjK (k:Nat) (x0:Int) (x1:Int) (x2:LL) (x3:LL) (x4:LL) (x5:Int) (x6:Int):Zke (k+1) x0 x1 x2 x3 x4 x5 x6 =
 (if (cop .lss x6 x5)=true then
 Jq x4 x6 [.int .i64,.int .i64,.slice 1,.int .i64] fun (r7:Int×Int×LL×Int)=>
 (g69 r7.1 r7.2.1 r7.2.2.1 r7.2.2.2).bind fun (r11:Bool)=>
 if (!r11)=true then
 some (false)
 else
 Zke k x0 x1 x2 x3 x4 x5 (iop .add .i64 x6 1)
 else
 Zi3 WL x3 (List.length x3:Int) 0):=by kernel_rfl
theorem Znl (x0:Int) (x1:Int) (x2:LL) (x3:LL):g52 x0 x1 x2 x3 =
 (if (cop .gtr (List.length x2:Int) 8)=true then
 some (false)
 else
 Zke WL x0 x1 x2 x3 x2 (List.length x2:Int) 0):=by kernel_rfl
noncomputable def F22:Fn:=⟨92,[2],[(5,[(1,.box [.int .i64,.slice 4]),(3,.c (.own true 1048668)),(24,.c (.slice 4)),(25,.c (.int .i64)),(26,.c (.int .i64))]),(10,[(1,.box [.int .i64,.slice 4]),(3,.c (.own true 1048668)),(24,.c (.slice 4)),(25,.c (.int .i64)),(26,.c (.int .i64)),(67,.c (.own true 41)),(68,.c (.int .i64)),(69,.c (.int .i64))])],[],0,[],[],Try.f22,[.agg [.int .i64,.slice 4]],[.c (.bool)],[(37,F37.S),(38,F38.S),(52,F52.S),(44,F44.S)]⟩
theorem Zm8:F22.S.Ok Try.prog 22:=F22.ok Try.func22 (by kernel_rfl) ⟨ZnZ,⟨ZnB,⟨Zoe,⟨Zol,trivial⟩⟩⟩⟩
noncomputable def g22 (x0:Int) (x1:LL):Option (Bool):=F22.S.g [.i x0,.l x1]
noncomputable def ZdN (rec0:List V→Option (Bool)) (k:Nat) (x0:Int) (x1:LL) (x2:LL) (x3:LL) (x4:Int) (x5:Int) (x6:LL) (x7:Int) (x8:Int):Option (Bool):=F22.lp [1,1,1,2,2,1,0,1,0,1,0,0,1,2] 1 (Zmf r0 0 rec0) k [.i x0,.l x1,.l x2,.l x3,.i x4,.i x5,.l x6,.i x7,.i x8]
theorem ZjH (rec0:List V→Option (Bool)) (k:Nat) (x0:Int) (x1:LL) (x2:LL) (x3:LL) (x4:Int) (x5:Int) (x6:LL) (x7:Int) (x8:Int):ZdN rec0 (k+1) x0 x1 x2 x3 x4 x5 x6 x7 x8 =
 (if (cop .lss x8 x7)=true then
 ZF ((0:Int)≤x8)<|
 ZF ((x8:Int) < (List.length x6:Int))<|
 Jq x6 x8 [.int .i64,.int .i64,.slice 1,.int .i64] fun (r9:Int×Int×LL×Int)=>
 if (cop .eql r9.1 0)=true then
 ZdN rec0 k x0 x1 x2 x3 x4 x5 x6 x7 (iop .add .i64 x8 1)
 else
 ZF (qop .mapv x2 0=true)<|
 Jq (ZbH x2 r9.1 [AV.val (.bool false)]) 0 [.bool,.bool] fun (r13:Bool×Bool)=>
 if r13.1=true then
 some (false)
 else
 if (cop .gtr r9.1 x0)=true then
 some (false)
 else
 ZF (qop .mapv x2 0=true)<|
 ZdN rec0 k x0 x1 (Zim x2 r9.1 [AV.val (.bool true)]) x3 x4 x5 x6 x7 (iop .add .i64 x8 1)
 else
 rec0 [.i x0,.l x1,.l x2,.l x3,.i x4,.i (iop .add .i64 x5 1)]):=by kernel_rfl
noncomputable def ZlY (k:Nat) (x0:Int) (x1:LL) (x2:LL) (x3:LL) (x4:Int) (x5:Int):Option (Bool):=F22.lp [1,1,1,0] 0 r0 k [.i x0,.l x1,.l x2,.l x3,.i x4,.i x5]
theorem Zki (k:Nat) (x0:Int) (x1:LL) (x2:LL) (x3:LL) (x4:Int) (x5:Int):ZlY (k+1) x0 x1 x2 x3 x4 x5 =
 (if (cop .lss x5 x4)=true then
 Jq x3 x5 [.int .i64,.int .i64,.slice 4,.slice 4] fun (r6:Int×Int×LL×LL)=>
 (g37 r6.1).bind fun (r10:Bool)=>
 if (!r10)=true then
 some (false)
 else
 (g38 r6.2.1).bind fun (r11:Bool)=>
 if (!r11)=true then
 some (false)
 else
 (g52 r6.1 r6.2.1 r6.2.2.1 r6.2.2.2).bind fun (r12:Bool)=>
 if (!r12)=true then
 some (false)
 else
 if (cop .gtr x5 0)=true then
 Jq x1 (iop .sub .i64 x5 1) [.int .i64,.int .i64,.slice 4,.slice 4] fun (r13:Int×Int×LL×LL)=>
 if (cop .geq r13.1 r6.1)=true then
 some (false)
 else
 (g44 ((E0++[[AV.slice false 4 r6.2.2.1]])++[[AV.slice false 4 r6.2.2.2]])).bind fun (r17:LL)=>
 ZdN (F22.lp [1,1,1,0] 0 r0 k) WL x0 x1 x2 x3 x4 x5 r17 (List.length r17:Int) 0
 else
 (g44 ((E0++[[AV.slice false 4 r6.2.2.1]])++[[AV.slice false 4 r6.2.2.2]])).bind fun (r13:LL)=>
 ZdN (F22.lp [1,1,1,0] 0 r0 k) WL x0 x1 x2 x3 x4 x5 r13 (List.length r13:Int) 0
 else
 some (true)):=by kernel_rfl
theorem Znj (x0:Int) (x1:LL):g22 x0 x1 =
 (if (cop .lss x0 0)=true then
 some (false)
 else
 if (cop .gtr x0 1099511627776)=true then
 some (false)
 else
 if (cop .gtr (List.length x1:Int) 32)=true then
 some (false)
 else
 ZlY WL x0 x1 (E0++[[AV.slice false 2 E0]]) x1 (List.length x1:Int) 0):=by kernel_rfl
end Go.Proofs.Ytigknndkmlhmfaa
end

section
namespace Go.Proofs.Ytigknndkmlhmfaa
open Go Go.AM
set_option linter.unusedVariables false
set_option maxRecDepth 100000
noncomputable def F39:Fn:=⟨21,[2],[(3,[(3,.c (.own true 1048653)),(8,.c (.slice 4)),(9,.c (.int .i64)),(10,.c (.int .i64))])],[],0,[],[],Try.f39,[.agg [.int .i64,.slice 4]],[.c (.own true 1048653)],[]⟩
theorem ZnM:F39.S.Ok Try.prog 39:=F39.ok Try.func39 (by kernel_rfl) trivial
noncomputable def g39 (x0:Int) (x1:LL):Option (LL):=F39.S.g [.i x0,.l x1]
noncomputable def ZjT (k:Nat) (x0:LL) (x1:LL) (x2:Int) (x3:Int):Option (LL):=F39.lp [0] 0 r0 k [.l x0,.l x1,.i x2,.i x3]
theorem Zj7 (k:Nat) (x0:LL) (x1:LL) (x2:Int) (x3:Int):ZjT (k+1) x0 x1 x2 x3 =
 (if (cop .lss x3 x2)=true then
 Jq x1 x3 [.int .i64,.int .i64,.slice 4,.slice 4] fun (r4:Int×Int×LL×LL)=>
 ZF (qop .mapv x0 0=true)<|
 ZjT k (Zim x0 r4.1 [AV.val (.int .i64 x3)]) x1 x2 (iop .add .i64 x3 1)
 else
 some (x0)):=by kernel_rfl
theorem Zmq (x0:Int) (x1:LL):g39 x0 x1 =
 (ZjT WL (E0++[[AV.slice false 2 E0]]) x1 (List.length x1:Int) 0):=by kernel_rfl
noncomputable def F42:Fn:=⟨93,[8,9],[],[],0,[],[(20,[(12,2),(12,2)])],Try.f42,[.agg [.int .i64,.slice 4],.c (.int .i64),.agg [.int .i64,.int .i64,.slice 1,.int .i64],.c (.bool)],[.agg [.int .i64,.slice 4],.c (.int .i64)],[(22,F22.S),(69,F69.S),(39,F39.S),(40,F40.S),(43,F43.S)]⟩
theorem Zn0:F42.S.Ok Try.prog 42:=F42.ok Try.func42 (by kernel_rfl) ⟨Zm8,⟨ZnX,⟨ZnM,⟨Znm,⟨Znq,trivial⟩⟩⟩⟩⟩
noncomputable def g42 (x0:Int) (x1:LL) (x2:Int) (x3:Int) (x4:Int) (x5:LL) (x6:Int) (x7:Bool):Option (Int×LL×Int):=F42.S.g [.i x0,.l x1,.i x2,.i x3,.i x4,.l x5,.i x6,.b x7]
theorem Zja (x0:Int) (x1:LL) (x2:Int) (x3:Int) (x4:Int) (x5:LL) (x6:Int) (x7:Bool):g42 x0 x1 x2 x3 x4 x5 x6 x7 =
 ((g22 x0 x1).bind fun (r8:Bool)=>
 if (!r8)=true then
 some (0,E0,74)
 else
 (g69 x3 x4 x5 x6).bind fun (r9:Bool)=>
 if (!r9)=true then
 some (0,E0,1)
 else
 (g39 x0 x1).bind fun (r10:LL)=>
 ZF (qop .mapv r10 0=true)<|
 Jq (ZbH r10 x2 [AV.val (.int .i64 0)]) 0 [.int .i64,.bool] fun (r11:Int×Bool)=>
 if (!r11.2)=true then
 some (0,E0,17)
 else
 Jq x1 r11.1 [.int .i64,.int .i64,.slice 4,.slice 4] fun (r13:Int×Int×LL×LL)=>
 if (cop .eql (List.length r13.2.2.1:Int) 8)=true then
 some (0,E0,65)
 else
 if x7=true then
 Jq x1 r11.1 [.int .i64,.int .i64,.slice 4,.slice 4] fun (r17:Int×Int×LL×LL)=>
 if (cop .eql r17.2.1 x4)=true then
 some (0,E0,4)
 else
 if x7=true then
 if (cop .eql x0 1099511627776)=true then
 some (0,E0,15)
 else
 (g40 x0 x1).bind fun (r21:Int×LL)=>
 if x7=true then
 (g43 x5).bind fun (r23:LL)=>
 ZF ((0:Int)≤r11.1)<|
 ZF ((r11.1:Int) < (List.length r21.2:Int))<|
 ZF ((0:Int)≤r11.1)<|
 ZF (qop (.nst 2 4 41) r21.2 r11.1=true)<|
 ZF (YT (WI r21.2 (Int.toNat r11.1) 2) (E0++[[AV.val (.int .i64 (iop .add .i64 r21.1 1)),AV.val (.int .i64 x4),AV.slice false 1 r23,AV.val (.int .i64 x6)]]) 48)<|
 ZF ((0:Int)≤r11.1)<|
 ZF ((r11.1:Int) < (List.length (Yl r21.2 (Int.toNat r11.1) 2 (AV.nest 4 false 41 E0)):Int))<|
 ZF ((0:Int)≤r11.1)<|
 ZF ((r11.1:Int) < (List.length (Yl r21.2 (Int.toNat r11.1) 2 (AV.nest 4 false 41 E0)):Int))<|
 some ((iop .add .i64 r21.1 1),(W5 (Yl (Yl r21.2 (Int.toNat r11.1) 2 (AV.nest 4 false 41 E0)) (Int.toNat r11.1) 2 (AV.nest 4 true 41 ((WI r21.2 (Int.toNat r11.1) 2)++(E0++[[AV.val (.int .i64 (iop .add .i64 r21.1 1)),AV.val (.int .i64 x4),AV.slice false 1 r23,AV.val (.int .i64 x6)]]))))),0)
 else
 (g43 x5).bind fun (r23:LL)=>
 ZF ((0:Int)≤r11.1)<|
 ZF ((r11.1:Int) < (List.length r21.2:Int))<|
 ZF ((0:Int)≤r11.1)<|
 ZF (qop (.nst 2 4 41) r21.2 r11.1=true)<|
 ZF (YT (WI r21.2 (Int.toNat r11.1) 2) (E0++[[AV.val (.int .i64 x3),AV.val (.int .i64 x4),AV.slice false 1 r23,AV.val (.int .i64 x6)]]) 48)<|
 ZF ((0:Int)≤r11.1)<|
 ZF ((r11.1:Int) < (List.length (Yl r21.2 (Int.toNat r11.1) 2 (AV.nest 4 false 41 E0)):Int))<|
 ZF ((0:Int)≤r11.1)<|
 ZF ((r11.1:Int) < (List.length (Yl r21.2 (Int.toNat r11.1) 2 (AV.nest 4 false 41 E0)):Int))<|
 some (r21.1,(W5 (Yl (Yl r21.2 (Int.toNat r11.1) 2 (AV.nest 4 false 41 E0)) (Int.toNat r11.1) 2 (AV.nest 4 true 41 ((WI r21.2 (Int.toNat r11.1) 2)++(E0++[[AV.val (.int .i64 x3),AV.val (.int .i64 x4),AV.slice false 1 r23,AV.val (.int .i64 x6)]]))))),0)
 else
 (g40 x0 x1).bind fun (r21:Int×LL)=>
 if x7=true then
 (g43 x5).bind fun (r23:LL)=>
 ZF ((0:Int)≤r11.1)<|
 ZF ((r11.1:Int) < (List.length r21.2:Int))<|
 ZF ((0:Int)≤r11.1)<|
 ZF (qop (.nst 2 4 41) r21.2 r11.1=true)<|
 ZF (YT (WI r21.2 (Int.toNat r11.1) 2) (E0++[[AV.val (.int .i64 (iop .add .i64 r21.1 1)),AV.val (.int .i64 x4),AV.slice false 1 r23,AV.val (.int .i64 x6)]]) 48)<|
 ZF ((0:Int)≤r11.1)<|
 ZF ((r11.1:Int) < (List.length (Yl r21.2 (Int.toNat r11.1) 2 (AV.nest 4 false 41 E0)):Int))<|
 ZF ((0:Int)≤r11.1)<|
 ZF ((r11.1:Int) < (List.length (Yl r21.2 (Int.toNat r11.1) 2 (AV.nest 4 false 41 E0)):Int))<|
 some ((iop .add .i64 r21.1 1),(W5 (Yl (Yl r21.2 (Int.toNat r11.1) 2 (AV.nest 4 false 41 E0)) (Int.toNat r11.1) 2 (AV.nest 4 true 41 ((WI r21.2 (Int.toNat r11.1) 2)++(E0++[[AV.val (.int .i64 (iop .add .i64 r21.1 1)),AV.val (.int .i64 x4),AV.slice false 1 r23,AV.val (.int .i64 x6)]]))))),0)
 else
 (g43 x5).bind fun (r23:LL)=>
 ZF ((0:Int)≤r11.1)<|
 ZF ((r11.1:Int) < (List.length r21.2:Int))<|
 ZF ((0:Int)≤r11.1)<|
 ZF (qop (.nst 2 4 41) r21.2 r11.1=true)<|
 ZF (YT (WI r21.2 (Int.toNat r11.1) 2) (E0++[[AV.val (.int .i64 x3),AV.val (.int .i64 x4),AV.slice false 1 r23,AV.val (.int .i64 x6)]]) 48)<|
 ZF ((0:Int)≤r11.1)<|
 ZF ((r11.1:Int) < (List.length (Yl r21.2 (Int.toNat r11.1) 2 (AV.nest 4 false 41 E0)):Int))<|
 ZF ((0:Int)≤r11.1)<|
 ZF ((r11.1:Int) < (List.length (Yl r21.2 (Int.toNat r11.1) 2 (AV.nest 4 false 41 E0)):Int))<|
 some (r21.1,(W5 (Yl (Yl r21.2 (Int.toNat r11.1) 2 (AV.nest 4 false 41 E0)) (Int.toNat r11.1) 2 (AV.nest 4 true 41 ((WI r21.2 (Int.toNat r11.1) 2)++(E0++[[AV.val (.int .i64 x3),AV.val (.int .i64 x4),AV.slice false 1 r23,AV.val (.int .i64 x6)]]))))),0)
 else
 if x7=true then
 if (cop .eql x0 1099511627776)=true then
 some (0,E0,15)
 else
 (g40 x0 x1).bind fun (r17:Int×LL)=>
 if x7=true then
 (g43 x5).bind fun (r19:LL)=>
 ZF ((0:Int)≤r11.1)<|
 ZF ((r11.1:Int) < (List.length r17.2:Int))<|
 ZF ((0:Int)≤r11.1)<|
 ZF (qop (.nst 2 4 41) r17.2 r11.1=true)<|
 ZF (YT (WI r17.2 (Int.toNat r11.1) 2) (E0++[[AV.val (.int .i64 (iop .add .i64 r17.1 1)),AV.val (.int .i64 x4),AV.slice false 1 r19,AV.val (.int .i64 x6)]]) 48)<|
 ZF ((0:Int)≤r11.1)<|
 ZF ((r11.1:Int) < (List.length (Yl r17.2 (Int.toNat r11.1) 2 (AV.nest 4 false 41 E0)):Int))<|
 ZF ((0:Int)≤r11.1)<|
 ZF ((r11.1:Int) < (List.length (Yl r17.2 (Int.toNat r11.1) 2 (AV.nest 4 false 41 E0)):Int))<|
 some ((iop .add .i64 r17.1 1),(W5 (Yl (Yl r17.2 (Int.toNat r11.1) 2 (AV.nest 4 false 41 E0)) (Int.toNat r11.1) 2 (AV.nest 4 true 41 ((WI r17.2 (Int.toNat r11.1) 2)++(E0++[[AV.val (.int .i64 (iop .add .i64 r17.1 1)),AV.val (.int .i64 x4),AV.slice false 1 r19,AV.val (.int .i64 x6)]]))))),0)
 else
 (g43 x5).bind fun (r19:LL)=>
 ZF ((0:Int)≤r11.1)<|
 ZF ((r11.1:Int) < (List.length r17.2:Int))<|
 ZF ((0:Int)≤r11.1)<|
 ZF (qop (.nst 2 4 41) r17.2 r11.1=true)<|
 ZF (YT (WI r17.2 (Int.toNat r11.1) 2) (E0++[[AV.val (.int .i64 x3),AV.val (.int .i64 x4),AV.slice false 1 r19,AV.val (.int .i64 x6)]]) 48)<|
 ZF ((0:Int)≤r11.1)<|
 ZF ((r11.1:Int) < (List.length (Yl r17.2 (Int.toNat r11.1) 2 (AV.nest 4 false 41 E0)):Int))<|
 ZF ((0:Int)≤r11.1)<|
 ZF ((r11.1:Int) < (List.length (Yl r17.2 (Int.toNat r11.1) 2 (AV.nest 4 false 41 E0)):Int))<|
 some (r17.1,(W5 (Yl (Yl r17.2 (Int.toNat r11.1) 2 (AV.nest 4 false 41 E0)) (Int.toNat r11.1) 2 (AV.nest 4 true 41 ((WI r17.2 (Int.toNat r11.1) 2)++(E0++[[AV.val (.int .i64 x3),AV.val (.int .i64 x4),AV.slice false 1 r19,AV.val (.int .i64 x6)]]))))),0)
 else
 (g40 x0 x1).bind fun (r17:Int×LL)=>
 if x7=true then
 (g43 x5).bind fun (r19:LL)=>
 ZF ((0:Int)≤r11.1)<|
 ZF ((r11.1:Int) < (List.length r17.2:Int))<|
 ZF ((0:Int)≤r11.1)<|
 ZF (qop (.nst 2 4 41) r17.2 r11.1=true)<|
 ZF (YT (WI r17.2 (Int.toNat r11.1) 2) (E0++[[AV.val (.int .i64 (iop .add .i64 r17.1 1)),AV.val (.int .i64 x4),AV.slice false 1 r19,AV.val (.int .i64 x6)]]) 48)<|
 ZF ((0:Int)≤r11.1)<|
 ZF ((r11.1:Int) < (List.length (Yl r17.2 (Int.toNat r11.1) 2 (AV.nest 4 false 41 E0)):Int))<|
 ZF ((0:Int)≤r11.1)<|
 ZF ((r11.1:Int) < (List.length (Yl r17.2 (Int.toNat r11.1) 2 (AV.nest 4 false 41 E0)):Int))<|
 some ((iop .add .i64 r17.1 1),(W5 (Yl (Yl r17.2 (Int.toNat r11.1) 2 (AV.nest 4 false 41 E0)) (Int.toNat r11.1) 2 (AV.nest 4 true 41 ((WI r17.2 (Int.toNat r11.1) 2)++(E0++[[AV.val (.int .i64 (iop .add .i64 r17.1 1)),AV.val (.int .i64 x4),AV.slice false 1 r19,AV.val (.int .i64 x6)]]))))),0)
 else
 (g43 x5).bind fun (r19:LL)=>
 ZF ((0:Int)≤r11.1)<|
 ZF ((r11.1:Int) < (List.length r17.2:Int))<|
 ZF ((0:Int)≤r11.1)<|
 ZF (qop (.nst 2 4 41) r17.2 r11.1=true)<|
 ZF (YT (WI r17.2 (Int.toNat r11.1) 2) (E0++[[AV.val (.int .i64 x3),AV.val (.int .i64 x4),AV.slice false 1 r19,AV.val (.int .i64 x6)]]) 48)<|
 ZF ((0:Int)≤r11.1)<|
 ZF ((r11.1:Int) < (List.length (Yl r17.2 (Int.toNat r11.1) 2 (AV.nest 4 false 41 E0)):Int))<|
 ZF ((0:Int)≤r11.1)<|
 ZF ((r11.1:Int) < (List.length (Yl r17.2 (Int.toNat r11.1) 2 (AV.nest 4 false 41 E0)):Int))<|
 some (r17.1,(W5 (Yl (Yl r17.2 (Int.toNat r11.1) 2 (AV.nest 4 false 41 E0)) (Int.toNat r11.1) 2 (AV.nest 4 true 41 ((WI r17.2 (Int.toNat r11.1) 2)++(E0++[[AV.val (.int .i64 x3),AV.val (.int .i64 x4),AV.slice false 1 r19,AV.val (.int .i64 x6)]]))))),0)):=by kernel_rfl
noncomputable def F13:Fn:=⟨21,[10,11],[],[],0,[],[],Try.f13,[.agg [.int .i64,.slice 4],.c (.int .i64),.c (.int .i64),.c (.slice 1),.c (.int .i64)],[.agg [.int .i64,.slice 4],.c (.int .i64)],[(42,F42.S)]⟩
theorem Zoj:F13.S.Ok Try.prog 13:=F13.ok Try.func13 (by kernel_rfl) ⟨Zn0,trivial⟩
noncomputable def g13 (x0:Int) (x1:LL) (x2:Int) (x3:Int) (x4:LL) (x5:Int):Option (Int×LL×Int):=F13.S.g [.i x0,.l x1,.i x2,.i x3,.l x4,.i x5]
theorem ZkM (x0:Int) (x1:LL) (x2:Int) (x3:Int) (x4:LL) (x5:Int):g13 x0 x1 x2 x3 x4 x5 =
 ((g42 x0 x1 x2 0 x3 x4 x5 false).bind fun (r6:Int×LL×Int)=>
 some (r6.1,r6.2.1,r6.2.2)):=by kernel_rfl
noncomputable def F12:Fn:=⟨27,[10,11,12],[],[],0,[],[],Try.f12,[.agg [.int .i64,.slice 4],.c (.int .i64),.c (.int .i64),.c (.slice 1),.c (.int .i64)],[.agg [.int .i64,.slice 4],.c (.int .i64),.c (.int .i64)],[(42,F42.S)]⟩
theorem Zn7:F12.S.Ok Try.prog 12:=F12.ok Try.func12 (by kernel_rfl) ⟨Zn0,trivial⟩
noncomputable def g12 (x0:Int) (x1:LL) (x2:Int) (x3:Int) (x4:LL) (x5:Int):Option (Int×LL×Int×Int):=F12.S.g [.i x0,.l x1,.i x2,.i x3,.l x4,.i x5]
theorem ZkQ (x0:Int) (x1:LL) (x2:Int) (x3:Int) (x4:LL) (x5:Int):g12 x0 x1 x2 x3 x4 x5 =
 ((g42 x0 x1 x2 0 x3 x4 x5 true).bind fun (r6:Int×LL×Int)=>
 some (r6.1,r6.2.1,r6.1,r6.2.2)):=by kernel_rfl
end Go.Proofs.Ytigknndkmlhmfaa
end

section
namespace Go.Proofs.Ytigknndkmlhmfaa
open Go Go.AM
set_option linter.unusedVariables false
set_option maxRecDepth 100000
noncomputable def F14:Fn:=⟨92,[6,7,8],[],[],0,[],[(17,[(11,2),(11,2)])],Try.f14,[.agg [.int .i64,.slice 4],.c (.int .i64),.c (.int .i64)],[.agg [.int .i64,.slice 4],.agg [.int .i64,.int .i64,.slice 1,.int .i64],.c (.int .i64)],[(22,F22.S),(39,F39.S),(40,F40.S),(43,F43.S)]⟩
theorem Zn9:F14.S.Ok Try.prog 14:=F14.ok Try.func14 (by kernel_rfl) ⟨Zm8,⟨ZnM,⟨Znm,⟨Znq,trivial⟩⟩⟩⟩
noncomputable def g14 (x0:Int) (x1:LL) (x2:Int) (x3:Int):Option (Int×LL×Int×Int×LL×Int×Int):=F14.S.g [.i x0,.l x1,.i x2,.i x3]
theorem ZmK (x0:Int) (x1:LL) (x2:Int) (x3:Int):g14 x0 x1 x2 x3 =
 ((g22 x0 x1).bind fun (r4:Bool)=>
 if (!r4)=true then
 some (0,E0,0,0,E0,0,74)
 else
 (g39 x0 x1).bind fun (r5:LL)=>
 ZF (qop .mapv r5 0=true)<|
 Jq (ZbH r5 x2 [AV.val (.int .i64 0)]) 0 [.int .i64,.bool] fun (r6:Int×Bool)=>
 if (!r6.2)=true then
 some (0,E0,0,0,E0,0,17)
 else
 Jq x1 r6.1 [.int .i64,.int .i64,.slice 4,.slice 4] fun (r8:Int×Int×LL×LL)=>
 if (cop .neq r8.2.1 x3)=true then
 some (0,E0,0,0,E0,0,8)
 else
 Jq x1 r6.1 [.int .i64,.int .i64,.slice 4,.slice 4] fun (r12:Int×Int×LL×LL)=>
 if (cop .eql (List.length r12.2.2.1:Int) 0)=true then
 some (0,E0,0,0,E0,0,2)
 else
 (g40 x0 x1).bind fun (r16:Int×LL)=>
 ZF ((0:Int)≤r6.1)<|
 ZF ((r6.1:Int) < (List.length r16.2:Int))<|
 Jq (Zjn (KH r16.2 (Int.toNat r6.1) 2 1) 2 1) r6.1 [.slice 4] fun (r18:LL)=>
 Jq r18 0 [.int .i64,.int .i64,.slice 1,.int .i64] fun (r19:Int×Int×LL×Int)=>
 Jq (Zjn (KH (KH r16.2 (Int.toNat r6.1) 2 1) (Int.toNat r6.1) 2 1) 2 1) r6.1 [.slice 4] fun (r23:LL)=>
 ZF ((0:Int)≤1)<|
 ZF ((1:Int)≤(List.length r23:Int))<|
 ZF ((0:Int)≤r6.1)<|
 ZF ((r6.1:Int) < (List.length (KH (KH r16.2 (Int.toNat r6.1) 2 1) (Int.toNat r6.1) 2 1):Int))<|
 if (cop .gtr r19.1 0)=true then
 ZF ((0:Int)≤r6.1)<|
 ZF (qop (.nst 3 4 41) (ZC (KH (KH r16.2 (Int.toNat r6.1) 2 1) (Int.toNat r6.1) 2 1) (Int.toNat r6.1) 2 [AV.slice false 4 (List.drop (Int.toNat 1) r23)]) r6.1=true)<|
 ZF (YT (WI (ZC (KH (KH r16.2 (Int.toNat r6.1) 2 1) (Int.toNat r6.1) 2 1) (Int.toNat r6.1) 2 [AV.slice false 4 (List.drop (Int.toNat 1) r23)]) (Int.toNat r6.1) 3) (E0++[[AV.val (.int .i64 r19.1),AV.val (.int .i64 r19.2.1),AV.slice false 1 r19.2.2.1,AV.val (.int .i64 r19.2.2.2)]]) 48)<|
 ZF ((0:Int)≤r6.1)<|
 ZF ((r6.1:Int) < (List.length (Yl (ZC (KH (KH r16.2 (Int.toNat r6.1) 2 1) (Int.toNat r6.1) 2 1) (Int.toNat r6.1) 2 [AV.slice false 4 (List.drop (Int.toNat 1) r23)]) (Int.toNat r6.1) 3 (AV.nest 4 false 41 E0)):Int))<|
 (g43 r19.2.2.1).bind fun (r24:LL)=>
 some (r16.1,(W5 (Yl (Yl (ZC (KH (KH r16.2 (Int.toNat r6.1) 2 1) (Int.toNat r6.1) 2 1) (Int.toNat r6.1) 2 [AV.slice false 4 (List.drop (Int.toNat 1) r23)]) (Int.toNat r6.1) 3 (AV.nest 4 false 41 E0)) (Int.toNat r6.1) 3 (AV.nest 4 true 41 ((WI (ZC (KH (KH r16.2 (Int.toNat r6.1) 2 1) (Int.toNat r6.1) 2 1) (Int.toNat r6.1) 2 [AV.slice false 4 (List.drop (Int.toNat 1) r23)]) (Int.toNat r6.1) 3)++(E0++[[AV.val (.int .i64 r19.1),AV.val (.int .i64 r19.2.1),AV.slice false 1 r19.2.2.1,AV.val (.int .i64 r19.2.2.2)]]))))),r19.1,r19.2.1,r24,r19.2.2.2,0)
 else
 some (r16.1,(W5 (ZC (KH (KH r16.2 (Int.toNat r6.1) 2 1) (Int.toNat r6.1) 2 1) (Int.toNat r6.1) 2 [AV.slice false 4 (List.drop (Int.toNat 1) r23)])),r19.1,r19.2.1,r19.2.2.1,r19.2.2.2,0)):=by kernel_rfl
end Go.Proofs.Ytigknndkmlhmfaa
end

section
namespace Go.Proofs.Ytigknndkmlhmfaa
open Go Go.AM
set_option linter.unusedVariables false
set_option maxRecDepth 100000
noncomputable def F48.S:Fun:=ZnY true 41
theorem Zoi:F48.S.Ok Try.prog 48:=delF_ok (T:=62) (B:=4) (I:=3) (U:=0) (e:=41) (bytes:=48) mixed (by kernel_rfl) Try.func48 (by kernel_rfl) ⟨by kernel_rfl,by kernel_rfl,by kernel_rfl⟩
noncomputable def F47:Fn:=⟨8,[3],[],[1],0,[],[],Try.f47,[.agg [.int .i64,.int .i64,.slice 1,.int .i64],.box [.int .i64]],[.c (.bool)],[]⟩
theorem Zoa:F47.S.Ok Try.prog 47:=F47.ok Try.func47 (by kernel_rfl) trivial
noncomputable def Ziw:Fn:=⟨19,[4],[(2,[(0,.c (.slice 4)),(1,.clo 47 [19]),(7,.c (.int .i64)),(8,.c (.int .i64)),(19,.gbox [.int .i64])])],[],1,[],[],Try.f46,[.c (.slice 4),.clo 47 [19],.dead,.dead,.dead,.dead,.dead,.dead,.dead,.dead,.dead,.dead,.dead,.dead,.dead,.dead,.dead,.dead,.dead,.gbox [.int .i64]],[.c (.int .i64)],[(47,F47.S)]⟩
theorem Zl2:Ziw.S.Ok Try.prog 46:=Ziw.ok Try.func46 (by kernel_rfl) ⟨Zoa,trivial⟩
noncomputable def F17:Fn:=⟨76,[8,9,10],[(6,[(2,.c (.int .i64)),(3,.c (.slice 1)),(4,.box [.int .i64,.slice 4]),(5,.box [.int .i64]),(8,.box [.int .i64,.slice 4]),(9,.box [.int .i64,.int .i64,.int .i64,.slice 1]),(26,.c (.slice 4)),(27,.c (.int .i64)),(28,.c (.int .i64))])],[],0,[],[(14,[(14,2),(14,2)])],Try.f17,[.agg [.int .i64,.slice 4],.c (.int .i64),.c (.int .i64),.c (.slice 1)],[.agg [.int .i64,.slice 4],.agg [.int .i64,.int .i64,.int .i64,.slice 1],.c (.int .i64)],[(22,F22.S),(46,Ziw.S),(40,F40.S),(48,F48.S),(43,F43.S)]⟩
theorem Zop:F17.S.Ok Try.prog 17:=F17.ok Try.func17 (by kernel_rfl) ⟨Zm8,⟨Zl2,⟨Znm,⟨Zoi,⟨Znq,trivial⟩⟩⟩⟩⟩
end Go.Proofs.Ytigknndkmlhmfaa
end

section
namespace Go.Proofs.Ytigknndkmlhmfaa
open Go Go.AM
set_option linter.unusedVariables false
set_option maxRecDepth 100000
noncomputable def F10:Fn:=⟨2,[0],[],[],0,[],[],Try.f10,[],[.agg [.int .i64,.slice 4]],[]⟩
theorem Zn5:F10.S.Ok Try.prog 10:=F10.ok Try.func10 (by kernel_rfl) trivial
noncomputable def g10:Option (Int×LL):=F10.S.g []
theorem Zmr:g10 =
 (some (0,E0)):=by kernel_rfl
noncomputable def F41.S:Fun:=Zn2 false 80 64
theorem Zoq:F41.S.Ok Try.prog 41:=insF_ok (T:=26) (B:=4) (I:=3) (e:=80) (fO:=67) (fR:=68) mixed (by kernel_rfl) Try.func41 (by kernel_rfl) ⟨by kernel_rfl,by kernel_rfl,by kernel_rfl⟩ Try.func67 (by kernel_rfl) (by kernel_rfl) (by kernel_rfl) (by kernel_rfl)
noncomputable def g41 (x0:LL) (x1:Int) (x2:LL):Option LL:=F41.S.g [.l x0,.i x1,.l x2]
theorem ZmZ (x0:LL) (x1:Int) (x2:LL):g41 x0 x1 x2=ZnO 64 x0 x1 x2:=rfl
noncomputable def F9:Fn:=⟨68,[6,7],[(11,[(1,.c (.int .i64)),(2,.c (.int .i64)),(3,.box [.int .i64,.slice 4]),(6,.box [.int .i64,.slice 4]),(10,.c (.int .i64))])],[],0,[],[(14,[(11,2)])],Try.f9,[.agg [.int .i64,.slice 4],.c (.int .i64),.c (.int .i64)],[.agg [.int .i64,.slice 4],.c (.int .i64)],[(22,F22.S),(37,F37.S),(38,F38.S),(39,F39.S),(40,F40.S),(41,F41.S)]⟩
theorem ok9:F9.S.Ok Try.prog 9:=F9.ok Try.func9 (by kernel_rfl) ⟨Zm8,⟨ZnZ,⟨ZnB,⟨ZnM,⟨Znm,⟨Zoq,trivial⟩⟩⟩⟩⟩⟩
noncomputable def g9 (x0:Int) (x1:LL) (x2:Int) (x3:Int):Option (Int×LL×Int):=F9.S.g [.i x0,.l x1,.i x2,.i x3]
noncomputable def ZnS (k:Nat) (x0:Int) (x1:Int) (x2:Int) (x3:LL) (x4:Int) (x5:LL) (x6:Int):Option (Int×LL×Int):=F9.lp [0,1,0,1,0,1,3,1,1,0] 0 r0 k [.i x0,.i x1,.i x2,.l x3,.i x4,.l x5,.i x6]
theorem ZlJ (k:Nat) (x0:Int) (x1:Int) (x2:Int) (x3:LL) (x4:Int) (x5:LL) (x6:Int):ZnS (k+1) x0 x1 x2 x3 x4 x5 x6 =
 (if (cop .lss x6 (List.length x3:Int))=true then
 Jq x3 x6 [.int .i64,.int .i64,.slice 4,.slice 4] fun (r7:Int×Int×LL×LL)=>
 if (cop .lss r7.1 x0)=true then
 ZnS k x0 x1 x2 x3 x4 x5 (iop .add .i64 x6 1)
 else
 (g40 x2 x3).bind fun (r11:Int×LL)=>
 (g41 (W5 r11.2) x6 (E0++[[AV.val (.int .i64 x0),AV.val (.int .i64 x1),AV.slice false 4 E0,AV.slice false 4 E0]])).bind fun (r13:LL)=>
 some (r11.1,r13,0)
 else
 (g40 x2 x3).bind fun (r7:Int×LL)=>
 (g41 (W5 r7.2) x6 (E0++[[AV.val (.int .i64 x0),AV.val (.int .i64 x1),AV.slice false 4 E0,AV.slice false 4 E0]])).bind fun (r9:LL)=>
 some (r7.1,r9,0)):=by kernel_rfl
theorem Znx (x0:Int) (x1:LL) (x2:Int) (x3:Int):g9 x0 x1 x2 x3 =
 ((g22 x0 x1).bind fun (r4:Bool)=>
 if (!r4)=true then
 some (0,E0,74)
 else
 (g37 x2).bind fun (r5:Bool)=>
 if (!r5)=true then
 some (0,E0,1)
 else
 (g38 x3).bind fun (r6:Bool)=>
 if (!r6)=true then
 some (0,E0,1)
 else
 (g39 x0 x1).bind fun (r7:LL)=>
 ZF (qop .mapv r7 0=true)<|
 Jq (ZbH r7 x2 [AV.val (.int .i64 0)]) 0 [.int .i64,.bool] fun (r8:Int×Bool)=>
 if r8.2=true then
 some (0,E0,56)
 else
 if (cop .eql (List.length x1:Int) 32)=true then
 some (0,E0,15)
 else
 ZnS WL x2 x3 x0 x1 0 E0 0):=by kernel_rfl
end Go.Proofs.Ytigknndkmlhmfaa
end

section
namespace Go.Proofs.Ytigknndkmlhmfaa
open Go Go.AM
set_option linter.unusedVariables false
set_option maxRecDepth 100000
noncomputable def F8:Fn:=⟨90,[0],[],[],0,[],[],Try.f8,[],[.c (.bool)],[(10,F10.S),(9,F9.S),(12,F12.S),(14,F14.S),(17,F17.S),(22,F22.S)]⟩
theorem ok8:F8.S.Ok Try.prog 8:=F8.ok Try.func8 (by kernel_rfl) ⟨Zn5,⟨ok9,⟨Zn7,⟨Zn9,⟨Zop,⟨Zm8,trivial⟩⟩⟩⟩⟩⟩
noncomputable def g8:Option (Bool):=F8.S.g []
end Go.Proofs.Ytigknndkmlhmfaa
end

section
namespace Go.Proofs.Ytigknndkmlhmfaa
open Go Go.AM
set_option linter.unusedVariables false
set_option maxRecDepth 100000
noncomputable def F4:Fn:=⟨96,[2],[(5,[(0,.c (.slice 1)),(3,.box [.int .i64,.slice 4]),(5,.c (.int .i64))])],[],0,[],[],Try.f4,[.c (.slice 1)],[.c (.bool)],[(10,F10.S),(9,F9.S),(12,F12.S),(13,F13.S),(14,F14.S),(8,F8.S)]⟩
theorem ok4:F4.S.Ok Try.prog 4:=F4.ok Try.func4 (by kernel_rfl) ⟨Zn5,⟨ok9,⟨Zn7,⟨Zoj,⟨Zn9,⟨ok8,trivial⟩⟩⟩⟩⟩⟩
noncomputable def g4 (x0:LL):Option (Bool):=F4.S.g [.l x0]
noncomputable def Zmd (k:Nat) (x0:LL) (x1:Int) (x2:LL) (x3:Int):Option (Bool):=F4.lp [2,1,0] 0 r0 k [.l x0,.i x1,.l x2,.i x3]
theorem ZlX (k:Nat) (x0:LL) (x1:Int) (x2:LL) (x3:Int):Zmd (k+1) x0 x1 x2 x3 =
 (if (cop .lss x3 8)=true then
 if (cop .lss x3 (List.length x0:Int))=true then
 Jq x0 x3 [.bool] fun (r4:Bool)=>
 if r4=true then
 (g12 x1 x2 64 2 E0 3).bind fun (r5:Int×LL×Int×Int)=>
 if (cop .neq r5.2.2.2 0)=true then
 some (false)
 else
 Zmd k x0 r5.1 r5.2.1 (iop .add .i64 x3 1)
 else
 (g13 x1 x2 64 2 E0 3).bind fun (r5:Int×LL×Int)=>
 if (cop .neq r5.2.2 0)=true then
 some (false)
 else
 Zmd k x0 r5.1 r5.2.1 (iop .add .i64 x3 1)
 else
 (g13 x1 x2 64 2 E0 3).bind fun (r4:Int×LL×Int)=>
 if (cop .neq r4.2.2 0)=true then
 some (false)
 else
 Zmd k x0 r4.1 r4.2.1 (iop .add .i64 x3 1)
 else
 (g13 x1 x2 64 2 E0 3).bind fun (r4:Int×LL×Int)=>
 (g12 x1 x2 64 2 E0 3).bind fun (r7:Int×LL×Int×Int)=>
 (g14 x1 x2 64 1).bind fun (r11:Int×LL×Int×Int×LL×Int×Int)=>
 (g13 r11.1 r11.2.1 64 2 E0 3).bind fun (r18:Int×LL×Int)=>
 if (cop .eql r4.2.2 65)=true then
 if (cop .eql r7.2.2.2 65)=true then
 if (cop .eql r11.2.2.2.2.2.2 0)=true then
 if (cop .eql r11.2.2.2.2.2.1 3)=true then
 if (cop .eql r18.2.2 0)=true then
 (g8).bind fun (r21:Bool)=>
 some (r21)
 else
 some (false)
 else
 some (false)
 else
 some (false)
 else
 some (false)
 else
 some (false)):=by kernel_rfl
theorem ZnE (x0:LL):g4 x0 =
 ((g10).bind fun (r1:Int×LL)=>
 (g9 r1.1 r1.2 64 1).bind fun (r3:Int×LL×Int)=>
 if (cop .neq r3.2.2 0)=true then
 some (false)
 else
 Zmd WL x0 r3.1 r3.2.1 0):=by kernel_rfl
end Go.Proofs.Ytigknndkmlhmfaa
end

section
namespace Go.Proofs.Ytigknndkmlhmfaa
open Go Go.AM
set_option linter.unusedVariables false
set_option maxRecDepth 100000
end Go.Proofs.Ytigknndkmlhmfaa
end

section
namespace Go.Proofs.Ytigknndkmlhmfaa
open Go Go.AM
set_option linter.unusedVariables false
set_option maxRecDepth 100000
end Go.Proofs.Ytigknndkmlhmfaa
end

section
namespace Go.Proofs.Ytigknndkmlhmfaa
open Go Go.AM
set_option linter.unusedSimpArgs false
set_option linter.unusedVariables false
set_option maxRecDepth 100000
theorem behind : ∃ ws, behindMainWord (wordsSigns Try.prog.initOrder.toList) = "cut".toList :: ws := by
 have h:Try.prog.initOrder.toList=_:=String.toList_ofList (l:=_)
 rw [h]
 exact ZeK (by kernel_rfl) (by kernel_rfl) (by kernel_rfl) (by kernel_rfl) (by kernel_rfl) (by kernel_rfl)
theorem Zmk:Try.prog.mayEnter=true:=behind.elim fun _ h=>Go.AM.enters_of h (by kernel_rfl) (by kernel_rfl) (by kernel_rfl)
theorem ZnP:Try.prog.liftsFinal=false:=behind.elim fun _ h=>Go.AM.final_of h
theorem Znd:Try.prog.make=some .cut:=behind.elim fun _ h=>Go.AM.make_of h
theorem Zoh:laidOutB Try.prog=true:=by kernel_rfl
theorem ZiZ:ownKnob Try.prog.godebug=none:=by kernel_rfl
theorem ZmC {d:Nat} {cs:List AV} (h:TyR Try.prog (d+1) 3 cs):∃ z,cs = [I z]:=by
 simp only [TyR,Try.underlying3] at h
 obtain ⟨z,h,_⟩:=h
 exact ⟨z,h⟩
theorem ZlC {d:Nat} {cs:List AV} (h:TyR Try.prog (d+1) 4 cs):∃ z,cs = [B z]:=by
 simp only [TyR,Try.underlying4] at h
 exact h
theorem arg_int {x:AV} (h:ZbM Try.prog 8 3 x):∃ z,x=I z:=by
 simp only [ZbM,Try.underlying3] at h
 obtain ⟨z,hz⟩:=ZmC h.2
 exact ⟨z,by simpa using hz⟩
def Zl0 (b:Bool):List AV:=[B b]
def Yo (l:List Bool):LL:=l.map Zl0
theorem Zeb {α β:Type} {f:α→β} {p:α→Prop} : ∀ (xs:List β),(∀ x∈xs,∃ a,x=f a∧p a)→∃ l:List α,xs=l.map f∧∀ a∈l,p a
 | [], _ => ⟨[], rfl, by simp⟩
 | x :: xs, h => by
  obtain ⟨a,h1,h2⟩:=h x (by simp)
  obtain ⟨l,h3,h4⟩:=Zeb xs fun y hy=>h y (by simp [hy])
  refine ⟨a::l,by rw [h1,h3];rfl,fun b hb=>?_⟩
  rcases List.mem_cons.1 hb with rfl | hb
  ·exact h2
  ·exact h4 b hb
theorem Znb:Try.prog.cellsOf 4=1:=by kernel_rfl
theorem Zh0 {x:AV} (h:ZbM Try.prog 8 23 x):∃ l,x = .slice false 1 (Yo l)∧l.length≤maxLen:=by
 simp only [ZbM,Try.underlying23] at h
 have hh:=h.2
 rw [TyR] at hh
 simp only [Try.underlying23,Znb] at hh
 obtain ⟨xs,h1,h2,h3⟩:=hh
 obtain ⟨l,rfl,h5⟩:=Zeb (f:=Zl0) (p:=fun _=>True) xs fun y hy=>by
  obtain ⟨z,hz⟩:=ZlC (h3 y hy)
  exact ⟨z,hz,trivial⟩
 exact ⟨l,by simpa [Yo] using h1,by simpa using h2⟩
def ZlK:List TypeId:=[3,4,22,23,24,44]
theorem ZnF (t:TypeId) (h:ZlK.contains t=true):W3 Try.prog 8 t=true∧t < Try.prog.types.size∧Try.prog.readableRec t=true:=by
 have h2:ZlK.all (fun t=>W3 Try.prog 8 t&&decide (t < Try.prog.types.size)&&Try.prog.readableRec t)=true:=by kernel_rfl
 rw [List.all_eq_true] at h2
 have:=h2 t (by simpa using h)
 simpa [and_assoc] using this
theorem Zmn {n:Nat} (h:n < 2^63):n+1 < WL:=by
 have:(2:Nat)^64≤WL:=by decide
 omega
theorem Zdz {α γ:Type} {f:α→List AV} {sh:List Sh} {v:α→ShsT sh} (hf:∀ x,ZiA sh (f x)=some (v x)) {l:List α} {i:Nat} (h:i < l.length) (k:ShsT sh→Option γ):Jq (l.map f) (i:Int) sh k=k (v l[i]):=by
 refine YU k (by omega) (cs:=f l[i]) ?_ (hf _)
 rw [Int.toNat_natCast,List.getElem?_map,List.getElem?_eq_getElem h]
 rfl
theorem JR {a b:LL} {k:Nat} (h:a.length+b.length≤4096) (hk:k≤10000):YT a b k:=by
 unfold YT Z0
 have:(a.length+b.length)*(k+1)≤4096*10001:=Nat.mul_le_mul h (by omega)
 omega
def Ret {α:Type} (P:α→Prop) (o:Option α):Prop:=∃ r,o=some r∧P r
theorem Jc {α:Type} {P:α→Prop} {a:α} (h:P a):Ret P (some a):=⟨a,rfl,h⟩
theorem Zgt {α β:Type} {P:β→Prop} {Q:α→Prop} {o:Option α} {f:α→Option β} (h:Ret Q o) (k:∀ r,Q r→Ret P (f r)):Ret P (o.bind f):=by
 obtain ⟨r,rfl,hr⟩:=h
 exact k r hr
theorem Zg {α:Type} {P:α→Prop} {c:Prop} {_:Decidable c} {a b:Option α} (h1:c→Ret P a) (h2:¬ c→Ret P b):Ret P (if c then a else b):=by
 split
 ·exact h1 ‹_›
 ·exact h2 ‹_›
theorem Zt {α:Type} {P:α→Prop} {p:Prop} {_:Decidable p} {x:Option α} (h:p) (k:Ret P x):Ret P (ZF p x):=by
 rw [Y1 h];exact k
theorem ZM {α:Type} {P:α→Prop} {a b:Option α} (h:a=b) (k:Ret P b):Ret P a:=h ▸ k
theorem Zd {α β:Type} {P:β→Prop} {o:Option α} {a:α} {f:α→Option β} (h:o=some a) (k:Ret P (f a)):Ret P (o.bind f):=by
 subst h;exact k
theorem YN {α:Type} {o:Option α} {a:α} (h:Ret (fun r=>r=a) o):o=some a:=by
 obtain ⟨r,e,rfl⟩:=h
 exact e
theorem ZjO {σ γ:Type} {P:γ→Prop} {F:Nat→σ→Int→Option γ} {n:Nat} (J:Nat→σ→Prop) (hn:n < 2^63)
  (step:∀ (k i:Nat) (s:σ),i < n→J i s→(∀ s',J (i+1) s'→Ret P (F k s' ((i+1:Nat):Int)))→Ret P (F (k+1) s (i:Int)))
  (last:∀ (k:Nat) (s:σ),J n s→Ret P (F (k+1) s (n:Int))) (s:σ) (h:J 0 s):Ret P (F WL s 0):=by
 have key:∀ (j i fuel:Nat) (s:σ),i+j=n→j < fuel→J i s→Ret P (F fuel s (i:Int)):=by
  intro j
  induction j with
  | zero =>
   intro i fuel s h hf hj
   obtain ⟨q,rfl⟩:∃ q,fuel=q+1:=⟨fuel-1,by omega⟩
   have:i=n:=by omega
   subst this
   exact last q s hj
  | succ j ih =>
   intro i fuel s h hf hj
   obtain ⟨q,rfl⟩:∃ q,fuel=q+1:=⟨fuel-1,by omega⟩
   exact step q i s (by omega) hj fun s' hs=>ih (i+1) q s' (by omega) (by omega) hs
 exact key n 0 WL s (by omega) (by have:=Zmn hn;omega) h
theorem Yn {σ γ:Type} {P:γ→Prop} {F:Nat→σ→Int→Option γ} (n:Nat) (J:Nat→σ→Prop) (hn:n < 1000)
  (step:∀ (k i:Nat) (s:σ),i≤n→J i s→(i < n→∀ s',J (i+1) s'→Ret P (F k s' ((i+1:Nat):Int)))→Ret P (F (k+1) s (i:Int))) (s:σ) (h:J 0 s):Ret P (F WL s 0):=by
 refine ZjO (F:=F) (n:=n) J (by omega) (fun k i s hi hj ih=>step k i s (by omega) hj fun _=>ih) (fun k s hj=>step k n s (Nat.le_refl _) hj fun h=>absurd h (Nat.lt_irrefl _)) s h
theorem ZbZ {i n:Nat} (h:i≤n) (hn:n < 1000):iop .add .i64 (i:Int) 1=((i+1:Nat):Int):=by
 rw [ZlT (by omega) (by omega)];omega
theorem Zhk {γ:Type} {l:List Bool} {i:Nat} (h:i < l.length) (k:Bool→Option γ):Jq (Yo l) (i:Int) [.bool] k=k l[i]:=Zdz (f:=Zl0) (sh:=[.bool]) (v:=fun x=>x) (fun _=>rfl) h k
theorem Zj6 {l:LL} {i o:Nat} {v:List AV} (h:∀ r,l[i]? = some r→setCells r o v=r):ZC l i o v=l:=by
 unfold ZC
 apply List.ext_getElem?
 intro j
 rw [List.getElem?_modify]
 by_cases hij:i=j
 ·subst hij
  cases hx:l[i]? with
  | none => rfl
  | some r => simp [h r hx]
 ·cases hx:l[j]? with
  | none => rfl
  | some r => simp [hij]
end Go.Proofs.Ytigknndkmlhmfaa
end

section
namespace Go.Proofs.Ytigknndkmlhmfaa
open Go Go.AM
set_option linter.unusedSimpArgs false
set_option linter.unusedVariables false
set_option maxRecDepth 100000
structure Ms where
 t:Int
 c:Int
 w:LL
 s:Int
def mc (m:Ms):List AV:=[I m.t,I m.c,.slice false 1 m.w,I m.s]
def mv (m:Ms):Int×Int×LL×Int:=(m.t,m.c,m.w,m.s)
def ZdE (m:Ms):Prop:=0≤m.t∧0≤m.c∧m.c < 32∧m.w.length≤8∧-1≤m.s∧m.s < 64
structure Ep where
 o:Int
 v:Int
 q:List Ms
 s:List Ms
def ec (e:Ep):List AV:=[I e.o,I e.v,.slice false 4 (e.q.map mc),.slice false 4 (e.s.map mc)]
def ev (e:Ep):Int×Int×LL×LL:=(e.o,e.v,e.q.map mc,e.s.map mc)
def en (e:Ep):List AV:=[I e.o,I e.v,.nest 4 true 41 (e.q.map mc),.nest 4 true 41 (e.s.map mc)]
theorem Zgq {γ:Type} {l:List Ms} {i:Nat} (h:i < l.length) (k:Int×Int×LL×Int→Option γ):Jq (l.map mc) (i:Int) [.int .i64,.int .i64,.slice 1,.int .i64] k=k (mv l[i]):=Zdz (f:=mc) (sh:=[.int .i64,.int .i64,.slice 1,.int .i64]) (v:=mv) (fun _=>rfl) h k
theorem VT {γ:Type} {l:List Ep} {i:Nat} (h:i < l.length) (k:Int×Int×LL×LL→Option γ):Jq (l.map ec) (i:Int) [.int .i64,.int .i64,.slice 4,.slice 4] k=k (ev l[i]):=Zdz (f:=ec) (sh:=[.int .i64,.int .i64,.slice 4,.slice 4]) (v:=ev) (fun _=>rfl) h k
theorem s65 (x:LL) (h:x.length < 1000):g65 x=some x:=by
 rw [ZmY]
 have hr:YT E0 x 64:=JR (by simp;omega) (by decide)
 cases x with
 | nil => simp [ZgO, ZF, hr]
 | cons a x => simp [ZgO, ZF, hr]
theorem s75 (x:LL) (h:x.length < 1000):g75 x=some x:=by
 rw [Zm5]
 have hr:YT E0 x 48:=JR (by simp;omega) (by decide)
 cases x with
 | nil => simp [ZgO, ZF, hr]
 | cons a x => simp [ZgO, ZF, hr]
theorem s43 (x:LL) (h:x.length < 1000):g43 x=some x:=by
 rw [Zmo]
 have hr:YT E0 x 8:=JR (by simp;omega) (by decide)
 cases x with
 | nil => simp [ZgO, ZF, hr]
 | cons a x => simp [ZgO, ZF, hr]
theorem s66 (ms:List Ms) (hl:ms.length < 1000) (hw:∀ m∈ms,m.w.length < 1000):g66 (ms.map mc)=some (ms.map mc):=by
 refine YN ?_
 rw [Zng]
 refine Zd (s75 _ (by simpa using hl)) ?_
 rw [List.length_map]
 refine Yn (F:=fun k (s:LL) i=>Zkm k s (ms.length:Int) i) ms.length (fun _ s=>s=ms.map mc) hl (fun k i s hi hs next=>?_) (ms.map mc) rfl
 subst hs
 refine ZM (Zkn ..) (Zg (fun h=>?_) fun _=>Jc rfl)
 simp only [CQ] at h
 have hi':i < ms.length:=by omega
 have r1:(0:Int)≤(i:Int):=Int.natCast_nonneg i
 have r2:(i:Int) < ((ms.map mc).length:Int):=by rw [List.length_map];omega
 refine Zt r1 (Zt r2 (ZM (Zgq hi' _) (Zd (s43 ms[i].w (hw _ (List.getElem_mem hi'))) (Zt r1 (Zt r2 (Zt r1 (Zt r2 ?_)))))))
 rw [ZbZ hi hl]
 refine next hi' _ (Zj6 fun r hr=>?_)
 rw [Int.toNat_natCast,List.getElem?_map,List.getElem?_eq_getElem hi'] at hr
 simp only [Option.map_some,Option.some.injEq] at hr
 subst hr
 rfl
theorem Zmx (es:List Ep):Zjc (es.map ec)=es.map ec:=by
 unfold Zjc
 rw [List.map_map]
 exact List.map_congr_left fun e _=>rfl
theorem Zm2 (es:List Ep):W5 (es.map en)=es.map ec:=by
 unfold W5
 rw [List.map_map]
 exact List.map_congr_left fun e _=>rfl
def mix (es:List Ep) (i:Nat):LL:=(es.take i).map en++(es.drop i).map ec
theorem ZmD {es:List Ep} {i:Nat} (h:i < es.length):(mix es i)[i]? = some (ec es[i]):=by
 unfold mix
 rw [List.getElem?_append_right (by simp;omega)]
 have:i-((es.take i).map en).length=0:=by simp;omega
 rw [this,List.getElem?_map,List.getElem?_drop,Nat.add_zero,List.getElem?_eq_getElem h]
 rfl
theorem ZfB (es:List Ep) (i:Nat):(mix es i).length=es.length:=by
 simp only [mix,List.length_append,List.length_map,List.length_take,List.length_drop];omega
theorem Kt {α:Type} {l:List α} {i:Nat} {f:α→α} {a:α} (h:l[i]? = some a):l.modify i f=l.set i (f a):=by
 apply List.ext_getElem?
 intro j
 rw [List.getElem?_modify,List.getElem?_set]
 have hi:=(List.getElem?_eq_some_iff.1 h).1
 by_cases hij:i=j
 ·subst hij
  rw [h]
  simp [hi]
 ·simp [hij]
theorem Zgx {α:Type} {l:List α} {i:Nat} {f:α→α} {a:α} (h:l[i]? = some a) (hf:f a=a):l.modify i f=l:=by
 rw [Kt h,hf]
 apply List.ext_getElem?
 intro j
 rw [List.getElem?_set]
 have hi:=(List.getElem?_eq_some_iff.1 h).1
 by_cases hij:i=j
 ·subst hij
  rw [h]
  simp [hi]
 ·simp [hij]
theorem ZjA {es:List Ep} {i:Nat} (h:i < es.length):(mix es i).set i (en es[i])=mix es (i+1):=by
 have h1:((es.take i).map en).length=i:=by simp;omega
 unfold mix
 rw [List.set_append_right _ _ (by omega),h1,Nat.sub_self,List.drop_eq_getElem_cons h,List.map_cons,List.set_cons_zero,List.take_succ_eq_append_getElem h,List.map_append,List.append_assoc]
 rfl
theorem s40 (n:Int) (es:List Ep) (hl:es.length < 1000) (hq:∀ e∈es,e.q.length < 1000∧e.s.length < 1000∧(∀ m∈e.q,m.w.length < 1000)∧∀ m∈e.s,m.w.length < 1000):g40 n (es.map ec)=some (n,es.map en):=by
 refine YN ?_
 rw [Zmy]
 refine Zd (s65 _ (by simpa using hl)) ?_
 rw [Zmx,List.length_map]
 have h0:es.map ec=mix es 0:=by simp [mix]
 have hn:es.map en=mix es es.length:=by simp [mix]
 rw [h0,hn]
 refine Yn (F:=fun k (s:LL) i=>Zkh k n s 0 E0 (es.length:Int) i) es.length (fun i s=>s=mix es i) hl (fun k i s hi hs next=>?_) (mix es 0) rfl
 subst hs
 refine ZM (ZjD ..) (Zg (fun h=>?_) fun h=>?_)
 ·simp only [CQ] at h
  have hi':i < es.length:=by omega
  have r1:(0:Int)≤(i:Int):=Int.natCast_nonneg i
  have hat:=ZmD hi'
  have hz:KH (mix es i) i 0 4=mix es i:=Zgx hat rfl
  have hel:∀ (k:Int×Int×LL×LL→Option (Int×LL)),Jq (Zjn (mix es i) 0 4) (i:Int) [.int .i64,.int .i64,.slice 4,.slice 4] k=k (ev es[i]):=fun k=>YU (sh:=[.int .i64,.int .i64,.slice 4,.slice 4]) k r1 (cs:=ec es[i]) (by
   rw [Int.toNat_natCast]
   unfold Zjn
   rw [List.getElem?_map,hat]
   rfl) rfl
  have r2:(i:Int) < ((mix es i).length:Int):=by rw [ZfB];omega
  obtain ⟨q1,q2,q3,q4⟩:=hq _ (List.getElem_mem hi')
  rw [Int.toNat_natCast,hz]
  obtain ⟨R1,hR1⟩:∃ R1:List AV,R1 = [I es[i].o,I es[i].v,.nest 4 true 41 (es[i].q.map mc),.slice false 4 (es[i].s.map mc)]:=⟨_,rfl⟩
  have hp1:Yl (mix es i) i 2 (.nest 4 true 41 (es[i].q.map mc))=(mix es i).set i R1:=by
   rw [hR1];exact Kt hat
  have hp2:Yl ((mix es i).set i R1) i 3 (.nest 4 true 41 (es[i].s.map mc))=mix es (i+1):=by
   have hb:((mix es i).set i R1)[i]? = some R1:=by rw [List.getElem?_set];simp [ZfB,hi']
   have:Yl ((mix es i).set i R1) i 3 (.nest 4 true 41 (es[i].s.map mc))=((mix es i).set i R1).set i (en es[i]):=by
    rw [hR1] at hb ⊢
    exact Kt hb
   rw [this,List.set_set,ZjA hi']
  have r3:(i:Int) < (((mix es i).set i R1).length:Int):=by rw [List.length_set,ZfB];omega
  refine Zt r1 (Zt r2 (ZM (hel _) (Zd (s66 es[i].q q1 q3) (Zt r1 (Zt r2 (Zt r1 (Zt r2 (Zd (s66 es[i].s q2 q4) ?_))))))))
  rw [hp1]
  refine Zt r1 (Zt r3 (Zt r1 (Zt r3 ?_)))
  rw [hp2,ZbZ hi hl]
  exact next hi' _ rfl
 ·simp only [CQ] at h
  have:i=es.length:=by omega
  subst this
  exact Jc rfl
end Go.Proofs.Ytigknndkmlhmfaa
end

section
namespace Go.Proofs.Ytigknndkmlhmfaa
open Go Go.AM
set_option linter.unusedSimpArgs false
set_option linter.unusedVariables false
set_option maxRecDepth 100000
theorem s37 (o:Int) (h0:0≤o) (h1:o≤1099511627775):g37 o=some true:=by
 refine YN ?_
 rw [Zne]
 refine Zg (fun _=>Jc ?_) fun h=>?_
 ·simp only [CQ];exact h1
 ·simp only [CQ] at h;omega
theorem s38 (o:Int) (h0:0≤o) (h1:o < 32):g38 o=some true:=by
 refine YN ?_
 rw [Zmp]
 refine Zg (fun _=>Jc ?_) fun h=>?_
 ·simp only [CQ];exact h1
 ·simp only [CQ] at h;omega
theorem s69 (m:Ms) (h:ZdE m):g69 m.t m.c m.w m.s=some true:=by
 obtain ⟨h1,h2,h3,h4,h5,h6⟩:=h
 refine YN ?_
 rw [ZmL]
 refine Zg (fun _=>Zd (s38 m.c h2 h3) (Zg (fun _=>Zg (fun _=>Zg (fun _=>Jc ?_) fun h=>?_) fun h=>?_) fun h=>?_)) fun h=>?_
 ·simp only [CQ];exact h6
 ·simp only [CQ] at h;omega
 ·simp only [CQ] at h;omega
 ·exact (h rfl).elim
 ·simp only [CQ] at h;omega
structure ZnD (e:Ep):Prop where
 o0:0≤e.o
 o1:e.o≤1099511627775
 v0:0≤e.v
 v1:e.v < 32
 ql:e.q.length≤8
 sl:e.s.length≤400
 qm:∀ m∈e.q,ZdE m
 sm:∀ m∈e.s,ZdE m∧m.t≠0
theorem s52 (e:Ep) (h:ZnD e):g52 e.o e.v (e.q.map mc) (e.s.map mc)=some true:=by
 refine YN ?_
 have hql:=h.ql
 have hsl:=h.sl
 rw [Znl]
 refine Zg (fun hh=>?_) fun _=>?_
 ·simp only [CQ,List.length_map] at hh;omega
 have hlast:Ret (fun r=>r=true) (Zi3 WL (e.s.map mc) (List.length (e.s.map mc):Int) 0):=by
  rw [List.length_map]
  refine Yn (F:=fun k (_:Unit) i=>Zi3 k (e.s.map mc) (e.s.length:Int) i) e.s.length (fun _ _=>True) (by omega) (fun k i _ hi _ next=>?_) () trivial
  refine ZM (ZjL ..) (Zg (fun hh=>?_) fun _=>Jc rfl)
  simp only [CQ] at hh
  have hi':i < e.s.length:=by omega
  obtain ⟨m1,m2⟩:=h.sm _ (List.getElem_mem hi')
  refine ZM (Zgq hi' _) (Zd (s69 _ m1) (Zg (fun h=>by cases h) fun _=>Zg (fun h=>?_) fun _=>?_))
  ·simp only [CQ,mv] at h;exact (m2 h).elim
  ·rw [ZbZ hi (by omega)]
   exact next hi' () trivial
 rw [List.length_map]
 refine Yn (F:=fun k (_:Unit) i=>Zke k e.o e.v (e.q.map mc) (e.s.map mc) (e.q.map mc) (e.q.length:Int) i) e.q.length (fun _ _=>True) (by omega) (fun k i _ hi _ next=>?_) () trivial
 refine ZM (ZjK ..) (Zg (fun hh=>?_) fun _=>hlast)
 simp only [CQ] at hh
 have hi':i < e.q.length:=by omega
 refine ZM (Zgq hi' _) (Zd (s69 _ (h.qm _ (List.getElem_mem hi'))) (Zg (fun h=>by cases h) fun _=>?_))
 rw [ZbZ hi (by omega)]
 exact next hi' () trivial
theorem ZmO:∃ q,WL=q+4:=by
 have:(2:Nat)^64≤WL:=by decide
 exact ⟨WL-4,by omega⟩
theorem s70 (n:Nat) (h:n≤1000):g70 E0 (n:Int)=some []:=by
 rw [ZmI]
 unfold Zlj
 rw [Y1 rfl,Y1 (Int.natCast_nonneg n),Y1 (by rw [Int.toNat_natCast];unfold Z0;omega)]
theorem s44 (a b:List Ms) (ha:a.length≤400) (hb:b.length≤400):g44 ((E0++[[AV.slice false 4 (a.map mc)]])++[[AV.slice false 4 (b.map mc)]])=some ((a++b).map mc):=by
 refine YN ?_
 obtain ⟨L,hL⟩:∃ L:LL,L=((E0++[[AV.slice false 4 (a.map mc)]])++[[AV.slice false 4 (b.map mc)]]):=⟨_,rfl⟩
 rw [← hL]
 have hlen:L.length=2:=by rw [hL];rfl
 have e0:∀ {γ:Type} (k:LL→Option γ),Jq L 0 [.slice 4] k=k (a.map mc):=fun k=>YU (sh:=[.slice 4]) k (by decide) (cs:=[AV.slice false 4 (a.map mc)]) (by rw [hL];rfl) rfl
 have e1:∀ {γ:Type} (k:LL→Option γ),Jq L (0+1:Nat) [.slice 4] k=k (b.map mc):=fun k=>YU (sh:=[.slice 4]) k (by decide) (cs:=[AV.slice false 4 (b.map mc)]) (by rw [hL];rfl) rfl
 obtain ⟨f,hf⟩:=ZmO
 have i1:iop .add .i64 0 1=((0+1:Nat):Int):=by decide
 have i2:iop .add .i64 ((0+1:Nat):Int) 1=2:=by decide
 have hmap:a.map mc++b.map mc=(a++b).map mc:=by rw [List.map_append]
 have hno:∀ (x y:Nat),x≤1000→y≤1000→iop .add .i64 (x:Int) (y:Int)=((x+y:Nat):Int):=fun x y hx hy=>by
  rw [ZlT (by omega) (by omega)];omega
 rw [ZmU,hlen,hf]
 refine ZM (Zdw ..) (Zg (fun _=>?_) fun h=>(h (by decide)).elim)
 refine ZM (e0 _) ?_
 rw [List.length_map,show ((0:Int))=((0:Nat):Int) from rfl,hno 0 a.length (by omega) (by omega)]
 refine Zg (fun h=>?_) fun _=>?_
 ·simp only [CQ] at h;omega
 rw [show iop .add .i64 ((0:Nat):Int) 1=((0+1:Nat):Int) from i1]
 refine ZM (Zdw ..) (Zg (fun _=>?_) fun h=>(h (by decide)).elim)
 refine ZM (e1 _) ?_
 rw [List.length_map,hno (0+a.length) b.length (by omega) (by omega)]
 refine Zg (fun h=>?_) fun _=>?_
 ·simp only [CQ] at h;omega
 rw [i2]
 refine ZM (Zdw ..) (Zg (fun h=>by cases h) fun _=>?_)
 refine Zd (s70 _ (by omega)) ?_
 rw [hlen,hf]
 refine ZM (ZcS ..) (Zg (fun _=>?_) fun h=>(h (by decide)).elim)
 refine ZM (e0 _) (Zt (JR (by simp;omega) (by decide)) ?_)
 rw [i1]
 refine ZM (ZcS ..) (Zg (fun _=>?_) fun h=>(h (by decide)).elim)
 refine ZM (e1 _) (Zt (JR (by simp;omega) (by decide)) ?_)
 rw [i2]
 refine ZM (ZcS ..) (Zg (fun h=>by cases h) fun _=>Jc ?_)
 rw [List.nil_append,hmap]
def kv (k:Int):List AV:=[I k,B true]
def W6 (K:List Int):LL:=[[.slice false 2 (K.map kv)]]
theorem Zl1 {K:List Int} {t:Int} (h:t∉K):ZbH (W6 K) t [AV.val (.bool false)] = [[AV.val (.bool false),AV.val (.bool false)]]:=by
 have hf:(JA (W6 K)).find? (fun r=>ZS r == some t)=none:=by
  rw [List.find?_eq_none]
  intro r hr
  obtain ⟨k,hk,rfl⟩:=List.mem_map.1 (show r∈K.map kv from hr)
  show ¬ ((some k == some t)=true)
  intro e
  have:k=t:=by simpa using e
  exact h (this ▸ hk)
 unfold ZbH
 rw [hf]
 rfl
theorem Zma {K:List Int} {t:Int} (h:t∉K):Zim (W6 K) t [AV.val (.bool true)]=W6 (K++[t]):=by
 have ha:((K.map kv).any fun r=>ZS r == some t)=false:=by
  rw [List.any_eq_false]
  intro r hr
  obtain ⟨k,hk,rfl⟩:=List.mem_map.1 hr
  show ¬ ((some k == some t)=true)
  intro e
  have:k=t:=by simpa using e
  exact h (this ▸ hk)
 have hr:JA (W6 K)=K.map kv:=rfl
 unfold Zim Kd
 rw [hr,ha,if_neg Bool.false_ne_true]
 unfold W6
 rw [List.map_append]
 rfl
def tk (l:List Ms):List Int:=(l.map Ms.t).filter fun t=>decide (t≠0)
def tkE (es:List Ep):List Int:=es.flatMap fun e=>tk (e.q++e.s)
theorem Ze3 {l:List Ms} {j:Nat} (h:j < l.length):tk (l.take (j+1))=if l[j].t=0 then tk (l.take j) else tk (l.take j)++[l[j].t]:=by
 unfold tk
 rw [List.take_succ_eq_append_getElem h,List.map_append,List.filter_append]
 by_cases h0:l[j].t=0
 ·rw [if_pos h0];simp [h0]
 ·rw [if_neg h0];simp [h0]
theorem Zm4 {l:List Ms} (j:Nat):∃ r,tk l=tk (l.take j)++r:=by
 refine ⟨tk (l.drop j),?_⟩
 unfold tk
 rw [← List.filter_append,← List.map_append,List.take_append_drop]
structure Vld (n:Int) (es:List Ep):Prop where
 n0:0≤n
 n1:n≤1099511627776
 len:es.length≤32
 ok:∀ e∈es,ZnD e
 ord:es.Pairwise fun a b=>a.o < b.o
 nd:(tkE es).Nodup
 le:∀ t∈tkE es,t≤n
theorem inner {P:Bool→Prop} (rec0:List V→Option Bool) (n:Int) (es:LL) (K:List Int) (l:List Ms) (x4 x5:Int) (hl:l.length≤800) (hnd:(K++tk l).Nodup) (hle:∀ t∈tk l,t≤n)
  (h:Ret P (rec0 [.i n,.l es,.l (W6 (K++tk l)),.l es,.i x4,.i (iop .add .i64 x5 1)])) :
  Ret P (ZdN rec0 WL n es (W6 K) es x4 x5 (l.map mc) (List.length (l.map mc):Int) 0):=by
 rw [List.length_map]
 refine Yn (F:=fun k (s:LL) i=>ZdN rec0 k n es s es x4 x5 (l.map mc) (l.length:Int) i) l.length (fun i s=>s=W6 (K++tk (l.take i))) (by omega) (fun k i s hi hs next=>?_) (W6 K) (by simp [tk])
 subst hs
 refine ZM (ZjH ..) (Zg (fun hh=>?_) fun hh=>?_)
 ·simp only [CQ] at hh
  have hi':i < l.length:=by omega
  have r1:(0:Int)≤(i:Int):=Int.natCast_nonneg i
  have r2:(i:Int) < ((l.map mc).length:Int):=by rw [List.length_map];omega
  refine Zt r1 (Zt r2 (ZM (Zgq hi' _) (Zg (fun h0=>?_) fun h0=>?_)))
  ·simp only [CQ,mv] at h0
   rw [ZbZ hi (by omega)]
   exact next hi' _ (by rw [Ze3 hi',if_pos h0])
  ·simp only [CQ,mv] at h0
   have hnot:l[i].t∉K++tk (l.take i):=by
    intro hmem
    obtain ⟨r,hr⟩:=Zm4 (l:=l) (i+1)
    rw [hr,Ze3 hi',if_neg h0] at hnd
    rw [← List.append_assoc,← List.append_assoc,List.nodup_append] at hnd
    have:=(List.nodup_append.1 hnd.1).2.2 _ hmem _ (List.mem_singleton.2 rfl)
    exact this rfl
   have hmem:l[i].t∈tk l:=by
    unfold tk
    rw [List.mem_filter]
    exact ⟨List.mem_map.2 ⟨l[i],List.getElem_mem hi',rfl⟩,by simp [h0]⟩
   refine Zt rfl ?_
   rw [show (mv l[i]).1=l[i].t from rfl,Zl1 hnot]
   refine ZM (YU (sh:=[.bool,.bool]) (r:=(false,false)) _ (by decide) rfl rfl) (Zg (fun h=>by cases h) fun _=>Zg (fun h1=>?_) fun _=>Zt rfl ?_)
   ·simp only [CQ] at h1
    have:=hle _ hmem
    omega
   ·rw [Zma hnot,ZbZ hi (by omega)]
    exact next hi' _ (by rw [Ze3 hi',if_neg h0,List.append_assoc])
 ·simp only [CQ] at hh
  have:i=l.length:=by omega
  subst this
  rw [List.take_length]
  exact h
theorem ZfR {es:List Ep} {j:Nat} (h:j < es.length):tkE (es.take (j+1))=tkE (es.take j)++tk (es[j].q++es[j].s):=by
 unfold tkE
 rw [List.take_succ_eq_append_getElem h,List.flatMap_append]
 simp
theorem Zk5 {es:List Ep} (j:Nat):∃ r,tkE es=tkE (es.take j)++r:=by
 refine ⟨tkE (es.drop j),?_⟩
 unfold tkE
 rw [← List.flatMap_append,List.take_append_drop]
theorem s22 (n:Int) (es:List Ep) (h:Vld n es):g22 n (es.map ec)=some true:=by
 refine YN ?_
 have hlen:=h.len
 have hn0:=h.n0
 have hn1:=h.n1
 rw [Znj]
 refine Zg (fun hh=>?_) fun _=>Zg (fun hh=>?_) fun _=>Zg (fun hh=>?_) fun _=>?_
 ·simp only [CQ] at hh;omega
 ·simp only [CQ] at hh;omega
 ·simp only [CQ,List.length_map] at hh;omega
 rw [List.length_map]
 refine Yn (F:=fun k (s:LL) i=>ZlY k n (es.map ec) s (es.map ec) (es.length:Int) i) es.length (fun i s=>s=W6 (tkE (es.take i))) (by omega) (fun k i s hi hs next=>?_) _ rfl
 subst hs
 refine ZM (Zki ..) (Zg (fun hh=>?_) fun _=>Jc rfl)
 simp only [CQ] at hh
 have hi':i < es.length:=by omega
 have he:=h.ok _ (List.getElem_mem hi')
 have hin:Ret (fun r=>r=true) ((g44 ((E0++[[AV.slice false 4 (ev es[i]).2.2.1]])++[[AV.slice false 4 (ev es[i]).2.2.2]])).bind fun (r17:LL)=>
   ZdN (F22.lp [1,1,1,0] 0 r0 k) WL n (es.map ec) (W6 (tkE (es.take i))) (es.map ec) (es.length:Int) (i:Int) r17 (List.length r17:Int) 0):=by
  refine Zd (s44 es[i].q es[i].s (by have:=he.ql;omega) he.sl) ?_
  obtain ⟨r,hr⟩:=Zk5 (es:=es) (i+1)
  rw [ZfR hi'] at hr
  have hnd:=h.nd
  have hle:=h.le
  rw [hr] at hnd hle
  refine inner (F22.lp [1,1,1,0] 0 r0 k) n (es.map ec) _ (es[i].q++es[i].s) _ _ (by have:=he.ql;have:=he.sl;simp;omega) (List.nodup_append.1 hnd).1 (fun t ht=>hle t (by simp [ht])) ?_
  rw [ZbZ hi (by omega),← ZfR hi']
  exact next hi' _ rfl
 refine ZM (VT hi' _) (Zd (s37 _ he.o0 he.o1) (Zg (fun h=>by cases h) fun _=>Zd (s38 _ he.v0 he.v1) (Zg (fun h=>by cases h) fun _=>Zd (s52 _ he) (Zg (fun h=>by cases h) fun _=>Zg (fun hp=>?_) fun _=>?_))))
 ·simp only [CQ] at hp
  obtain ⟨j,rfl⟩:∃ j,i=j+1:=⟨i-1,by omega⟩
  have hs:iop .sub .i64 ((j+1:Nat):Int) 1=(j:Int):=by rw [Zny (by omega) (by omega)];omega
  rw [hs]
  have hj:j < es.length:=by omega
  refine ZM (VT hj _) (Zg (fun hg=>?_) fun _=>hin)
  simp only [CQ,ev] at hg
  have:=List.pairwise_iff_getElem.1 h.ord j (j+1) hj hi' (by omega)
  omega
 ·exact hin
end Go.Proofs.Ytigknndkmlhmfaa
end

section
namespace Go.Proofs.Ytigknndkmlhmfaa
open Go Go.AM
set_option linter.unusedSimpArgs false
set_option linter.unusedVariables false
set_option maxRecDepth 100000
def iv (p:Ep×Nat):List AV:=[I p.1.o,I (p.2:Int)]
def Zjk (es:List Ep):LL:=[[.slice false 2 (es.zipIdx.map iv)]]
theorem Zlp {es:List Ep} {e:Ep} (h:∀ x∈es,x.o≠e.o):Zim (Zjk es) e.o [AV.val (.int .i64 (es.length:Int))]=Zjk (es++[e]):=by
 have ha:((es.zipIdx.map iv).any fun r=>ZS r == some e.o)=false:=by
  rw [List.any_eq_false]
  intro r hr
  obtain ⟨p,hp,rfl⟩:=List.mem_map.1 hr
  show ¬ ((some p.1.o == some e.o)=true)
  intro q
  have q':p.1.o=e.o:=by simpa using q
  exact h _ (List.fst_mem_of_mem_zipIdx hp) q'
 have hr:JA (Zjk es)=es.zipIdx.map iv:=rfl
 unfold Zim Kd
 rw [hr,ha,if_neg Bool.false_ne_true]
 unfold Zjk
 rw [List.zipIdx_append,List.map_append,Nat.zero_add]
 rfl
theorem s39 (n:Int) (es:List Ep) (hl:es.length < 900) (ho:es.Pairwise fun a b=>a.o < b.o):g39 n (es.map ec)=some (Zjk es):=by
 refine YN ?_
 rw [Zmq,List.length_map]
 refine Yn (F:=fun k (s:LL) i=>ZjT k s (es.map ec) (es.length:Int) i) es.length (fun i s=>s=Zjk (es.take i)) (by omega) (fun k i s hi hs next=>?_) _ rfl
 subst hs
 refine ZM (Zj7 ..) (Zg (fun hh=>?_) fun hh=>?_)
 ·simp only [CQ] at hh
  have hi':i < es.length:=by omega
  refine ZM (VT hi' _) (Zt rfl ?_)
  have hp:=Zlp (es:=es.take i) (e:=es[i]) (fun x hx=>by
   obtain ⟨j,hj,rfl⟩:=List.getElem_of_mem hx
   rw [List.length_take] at hj
   rw [List.getElem_take]
   have:=List.pairwise_iff_getElem.1 ho j i (by omega) hi' (by omega)
   omega)
  rw [List.length_take,Nat.min_eq_left hi] at hp
  rw [show (ev es[i]).1=es[i].o from rfl,hp,ZbZ hi (by omega),← List.take_succ_eq_append_getElem hi']
  exact next hi' _ rfl
 ·simp only [CQ] at hh
  have:i=es.length:=by omega
  subst this
  rw [List.take_length]
  exact Jc rfl
theorem ZkD {es:List Ep} {o:Int} (h:∀ e∈es,e.o≠o):ZbH (Zjk es) o [AV.val (.int .i64 0)] = [[AV.val (.int .i64 0),AV.val (.bool false)]]:=by
 have hf:(JA (Zjk es)).find? (fun r=>ZS r == some o)=none:=by
  rw [List.find?_eq_none]
  intro r hr
  obtain ⟨p,hp,rfl⟩:=List.mem_map.1 (show r∈es.zipIdx.map iv from hr)
  show ¬ ((some p.1.o == some o)=true)
  intro e
  have e':p.1.o=o:=by simpa using e
  exact h _ (List.fst_mem_of_mem_zipIdx hp) e'
 unfold ZbH
 rw [hf]
 rfl
theorem Zf5 {es:List Ep} {k:Nat} (hk:k < es.length) (ho:es.Pairwise fun a b=>a.o < b.o):ZbH (Zjk es) es[k].o [AV.val (.int .i64 0)] = [[AV.val (.int .i64 (k:Int)),AV.val (.bool true)]]:=by
 have hf:(JA (Zjk es)).find? (fun r=>ZS r == some es[k].o)=some (iv (es[k],k)):=by
  show (es.zipIdx.map iv).find? _=_
  rw [List.find?_eq_some_iff_getElem]
  refine ⟨?_,k,by simpa using hk,by simp,fun j hj=>?_⟩
  ·show (some es[k].o == some es[k].o)=true
   simp
  ·have hj':j < es.length:=by omega
   have:((es.zipIdx.map iv)[j]'(by simpa using hj'))=iv (es[j],j):=by simp
   rw [this]
   have:=List.pairwise_iff_getElem.1 ho j k hj' hk hj
   show (!(some es[j].o == some es[k].o))=true
   simp
   omega
 unfold ZbH
 rw [hf]
 rfl
theorem ZaV {γ:Type} {L:LL} {z:Int} {b:Bool} (h:L = [[AV.val (.int .i64 z),AV.val (.bool b)]]) (k:Int×Bool→Option γ):Jq L 0 [.int .i64,.bool] k=k (z,b):=by
 subst h
 exact YU (sh:=[.int .i64,.bool]) k (by decide) (cs:=[AV.val (.int .i64 z),AV.val (.bool b)]) rfl rfl
theorem Vld.few {n:Int} {es:List Ep} (h:Vld n es):∀ e∈es,e.q.length < 1000∧e.s.length < 1000∧(∀ m∈e.q,m.w.length < 1000)∧∀ m∈e.s,m.w.length < 1000:=fun e he=>by
 have:=h.ok e he
 refine ⟨by have:=this.ql;omega,by have:=this.sl;omega,fun m hm=>?_,fun m hm=>?_⟩
 ·have:=(this.qm m hm).2.2.2.1;omega
 ·have:=(this.sm m hm).1.2.2.2.1;omega
theorem ZfA (es:List Ep) (k:Nat) (e:Ep) {R:List AV} (h:R.map ZaY=ec e):W5 ((es.map en).set k R)=(es.set k e).map ec:=by
 unfold W5
 rw [List.map_set,h,List.map_set]
 congr 1
 exact Zm2 es
theorem Zml {es:List Ep} {k:Nat} (hk:k < es.length):(es.map en)[k]? = some (en es[k]):=by
 rw [List.getElem?_map,List.getElem?_eq_getElem hk];rfl
theorem WU {L:LL} {k:Nat} {R:List AV} (hk:k < L.length):(L.set k R)[k]? = some R:=by
 rw [List.getElem?_set];simp [hk]
theorem ZhK {L:LL} {k o s:Nat} {e:TypeId} {r:List AV} {ys:LL} (h:L[k]? = some r) (h2:r[o]? = some (.nest s true e ys)):qop (.nst o s e) L (k:Int)=true:=by
 simp [qop,h,h2]
theorem Zgu {P:Int×LL×Int→Prop} (N:Int) (es:List Ep) (k:Nat) (hk:k < es.length) (m:Ms) (hq:es[k].q.length≤100) (h:P (N,(es.set k { es[k] with q:=es[k].q++[m] }).map ec,0)) :
  Ret P (ZF ((0:Int)≤(k:Int))<|ZF ((k:Int) < (List.length (es.map en):Int))<|ZF ((0:Int)≤(k:Int))<|ZF (qop (.nst 2 4 41) (es.map en) (k:Int)=true)<|
   ZF (YT (WI (es.map en) (Int.toNat (k:Int)) 2) (E0++[mc m]) 48)<|ZF ((0:Int)≤(k:Int))<|
   ZF ((k:Int) < (List.length (Yl (es.map en) (Int.toNat (k:Int)) 2 (AV.nest 4 false 41 E0)):Int))<|ZF ((0:Int)≤(k:Int))<|
   ZF ((k:Int) < (List.length (Yl (es.map en) (Int.toNat (k:Int)) 2 (AV.nest 4 false 41 E0)):Int))<|
   some (N,W5 (Yl (Yl (es.map en) (Int.toNat (k:Int)) 2 (AV.nest 4 false 41 E0)) (Int.toNat (k:Int)) 2 (AV.nest 4 true 41 ((WI (es.map en) (Int.toNat (k:Int)) 2)++(E0++[mc m])))),0)):=by
 have hat:=Zml hk
 have hlen:k < (es.map en).length:=by simpa using hk
 have hg:WI (es.map en) k 2=es[k].q.map mc:=by
  unfold WI
  rw [hat]
  rfl
 have hp1:Yl (es.map en) k 2 (AV.nest 4 false 41 E0)=(es.map en).set k [I es[k].o,I es[k].v,.nest 4 false 41 [],.nest 4 true 41 (es[k].s.map mc)]:=Kt hat
 have hp2:Yl ((es.map en).set k [I es[k].o,I es[k].v,.nest 4 false 41 [],.nest 4 true 41 (es[k].s.map mc)]) k 2 (AV.nest 4 true 41 ((es[k].q++[m]).map mc)) =
   (es.map en).set k (en { es[k] with q:=es[k].q++[m] }):=by
  have:Yl ((es.map en).set k [I es[k].o,I es[k].v,.nest 4 false 41 [],.nest 4 true 41 (es[k].s.map mc)]) k 2 (AV.nest 4 true 41 ((es[k].q++[m]).map mc))=((es.map en).set k _).set k (en { es[k] with q:=es[k].q++[m] }):=Kt (WU hlen)
  rw [this,List.set_set]
 have r1:(0:Int)≤(k:Int):=Int.natCast_nonneg k
 have r2:(k:Int) < (List.length (es.map en):Int):=by omega
 have hm:es[k].q.map mc++(E0++[mc m])=(es[k].q++[m]).map mc:=by simp
 rw [Int.toNat_natCast,hg,hm,hp1,hp2,List.length_set]
 refine Zt r1 (Zt r2 (Zt r1 (Zt ?_ (Zt (JR (by simp;omega) (by decide)) (Zt r1 (Zt r2 (Zt r1 (Zt r2 ?_))))))))
 ·exact ZhK hat rfl
 ·rw [ZfA es k { es[k] with q:=es[k].q++[m] } rfl]
  exact Jc h
theorem s13 (n:Int) (es:List Ep) (h:Vld n es) (k:Nat) (hk:k < es.length) (c:Int) (w:LL) (s:Int) (hm:ZdE ⟨0,c,w,s⟩) (hq:es[k].q.length < 8) :
  g13 n (es.map ec) es[k].o c w s=some (n,(es.set k { es[k] with q:=es[k].q++[⟨0,c,w,s⟩] }).map ec,0):=by
 refine YN ?_
 rw [ZkM]
 refine Zgt (Q:=fun r=>r=(n,(es.set k { es[k] with q:=es[k].q++[⟨0,c,w,s⟩] }).map ec,0)) ?_ fun r hr=>Jc (by rw [hr])
 rw [Zja]
 have hlen:=h.len
 refine Zd (s22 n es h) (Zg (fun h=>by cases h) fun _=>Zd (s69 ⟨0,c,w,s⟩ hm) (Zg (fun h=>by cases h) fun _=>Zd (s39 n es (by omega) h.ord) (Zt rfl ?_)))
 refine ZM (ZaV (Zf5 hk h.ord) _) (Zg (fun h=>by cases h) fun _=>ZM (VT hk _) (Zg (fun h8=>?_) fun _=>Zg (fun h=>by cases h) fun _=>Zg (fun h=>by cases h) fun _=>?_))
 ·simp only [CQ,ev,List.length_map] at h8;omega
 refine Zd (s40 n es (by omega) h.few) (Zg (fun h=>by cases h) fun _=>Zd (s43 w (by have:=hm.2.2.2.1;simp only at this;omega)) ?_)
 exact Zgu n es k hk ⟨0,c,w,s⟩ (by omega) rfl
theorem s12 (n:Int) (es:List Ep) (h:Vld n es) (k:Nat) (hk:k < es.length) (c:Int) (w:LL) (s:Int) (hm:ZdE ⟨0,c,w,s⟩) (hq:es[k].q.length < 8) (hv:es[k].v≠c) (hn:n < 1099511627776) :
  g12 n (es.map ec) es[k].o c w s=some (n+1,(es.set k { es[k] with q:=es[k].q++[⟨n+1,c,w,s⟩] }).map ec,n+1,0):=by
 refine YN ?_
 have hn0:=h.n0
 have hadd:iop .add .i64 n 1=n+1:=ZlT (by omega) (by omega)
 rw [ZkQ]
 refine Zgt (Q:=fun r=>r=(n+1,(es.set k { es[k] with q:=es[k].q++[⟨n+1,c,w,s⟩] }).map ec,0)) ?_ fun r hr=>Jc (by rw [hr])
 rw [Zja]
 have hlen:=h.len
 refine Zd (s22 n es h) (Zg (fun h=>by cases h) fun _=>Zd (s69 ⟨0,c,w,s⟩ hm) (Zg (fun h=>by cases h) fun _=>Zd (s39 n es (by omega) h.ord) (Zt rfl ?_)))
 refine ZM (ZaV (Zf5 hk h.ord) _) (Zg (fun h=>by cases h) fun _=>ZM (VT hk _) (Zg (fun h8=>?_) fun _=>Zg (fun _=>?_) fun h=>(h rfl).elim))
 ·simp only [CQ,ev,List.length_map] at h8;omega
 refine ZM (VT hk _) (Zg (fun hb=>?_) fun _=>Zg (fun _=>Zg (fun hb=>?_) fun _=>?_) fun h=>(h rfl).elim)
 ·simp only [CQ,ev] at hb;exact (hv hb).elim
 ·simp only [CQ] at hb;omega
 refine Zd (s40 n es (by omega) h.few) (Zg (fun _=>Zd (s43 w (by have:=hm.2.2.2.1;simp only at this;omega)) ?_) fun h=>(h rfl).elim)
 rw [show iop .add .i64 (n,es.map en).1 1=n+1 from hadd]
 exact Zgu (n+1) es k hk ⟨n+1,c,w,s⟩ (by omega) rfl
theorem Zn6 (n:Int) (es:List Ep) (h:Vld n es) (k:Nat) (hk:k < es.length) (c:Int) (w:LL) (s:Int) (b:Bool) (hm:ZdE ⟨0,c,w,s⟩) (hq:es[k].q.length=8) :
  g42 n (es.map ec) es[k].o 0 c w s b=some (0,E0,65):=by
 refine YN ?_
 rw [Zja]
 have hlen:=h.len
 refine Zd (s22 n es h) (Zg (fun h=>by cases h) fun _=>Zd (s69 ⟨0,c,w,s⟩ hm) (Zg (fun h=>by cases h) fun _=>Zd (s39 n es (by omega) h.ord) (Zt rfl ?_)))
 refine ZM (ZaV (Zf5 hk h.ord) _) (Zg (fun h=>by cases h) fun _=>ZM (VT hk _) (Zg (fun _=>Jc rfl) fun h8=>?_))
 simp only [CQ,ev,List.length_map] at h8;omega
theorem Zom (n:Int) (es:List Ep) (h:Vld n es) (k:Nat) (hk:k < es.length) (c:Int) (w:LL) (s:Int) (hm:ZdE ⟨0,c,w,s⟩) (hq:es[k].q.length=8):g13 n (es.map ec) es[k].o c w s=some (0,E0,65):=by
 rw [ZkM,Zn6 n es h k hk c w s false hm hq];rfl
theorem Zor (n:Int) (es:List Ep) (h:Vld n es) (k:Nat) (hk:k < es.length) (c:Int) (w:LL) (s:Int) (hm:ZdE ⟨0,c,w,s⟩) (hq:es[k].q.length=8):g12 n (es.map ec) es[k].o c w s=some (0,E0,0,65):=by
 rw [ZkQ,Zn6 n es h k hk c w s true hm hq];rfl
def Zb1 (e:Ep) (m:Ms) (q:List Ms):Ep:=if 0 < m.t then { e with q:=q,s:=e.s++[m] } else { e with q:=q }
theorem s14 (n:Int) (es:List Ep) (h:Vld n es) (k:Nat) (hk:k < es.length) (m:Ms) (q:List Ms) (hq:es[k].q=m::q) :
  g14 n (es.map ec) es[k].o es[k].v=some (n,(es.set k (Zb1 es[k] m q)).map ec,m.t,m.c,m.w,m.s,0):=by
 refine YN ?_
 have hlen:=h.len
 have hat:=Zml hk
 have hlk:k < (es.map en).length:=by simpa using hk
 have hok:=h.ok _ (List.getElem_mem hk)
 have hmok:ZdE m:=hok.qm m (by rw [hq];simp)
 have r1:(0:Int)≤(k:Int):=Int.natCast_nonneg k
 have r2:(k:Int) < (List.length (es.map en):Int):=by omega
 rw [ZmK]
 refine Zd (s22 n es h) (Zg (fun h=>by cases h) fun _=>Zd (s39 n es (by omega) h.ord) (Zt rfl ?_))
 refine ZM (ZaV (Zf5 hk h.ord) _) (Zg (fun h=>by cases h) fun _=>ZM (VT hk _) (Zg (fun h8=>?_) fun _=>ZM (VT hk _) (Zg (fun h8=>?_) fun _=>?_)))
 ·simp only [CQ,ev] at h8;exact (h8 rfl).elim
 ·simp only [CQ,ev,List.length_map,hq,List.length_cons] at h8;omega
 refine Zd (s40 n es (by omega) h.few) ?_
 obtain ⟨R1,hR1⟩:∃ R:List AV,R = [I es[k].o,I es[k].v,.slice false 4 (es[k].q.map mc),.nest 4 true 41 (es[k].s.map mc)]:=⟨_,rfl⟩
 obtain ⟨R2,hR2⟩:∃ R:List AV,R = [I es[k].o,I es[k].v,.slice false 4 (q.map mc),.nest 4 true 41 (es[k].s.map mc)]:=⟨_,rfl⟩
 obtain ⟨R3,hR3⟩:∃ R:List AV,R = [I es[k].o,I es[k].v,.slice false 4 (q.map mc),.nest 4 false 41 []]:=⟨_,rfl⟩
 have hf1:KH (es.map en) k 2 1=(es.map en).set k R1:=by rw [hR1];exact Kt hat
 have hf2:KH ((es.map en).set k R1) k 2 1=(es.map en).set k R1:=Zgx (WU hlk) (by rw [hR1];rfl)
 have hel:∀ {γ:Type} (f:LL→Option γ),Jq (Zjn ((es.map en).set k R1) 2 1) (k:Int) [.slice 4] f=f (es[k].q.map mc):=fun f=>YU (sh:=[.slice 4]) f r1 (cs:=[.slice false 4 (es[k].q.map mc)]) (by
  rw [Int.toNat_natCast]
  unfold Zjn
  rw [List.getElem?_map,WU hlk,hR1]
  rfl) rfl
 have hse:ZC ((es.map en).set k R1) k 2 [AV.slice false 4 (q.map mc)]=(es.map en).set k R2:=by
  have hb:((es.map en).set k R1)[k]? = some R1:=WU hlk
  have:ZC ((es.map en).set k R1) k 2 [AV.slice false 4 (q.map mc)]=((es.map en).set k R1).set k (setCells R1 2 [AV.slice false 4 (q.map mc)]):=Kt hb
  rw [this,List.set_set,hR1,hR2]
  rfl
 have hdrop:List.drop (Int.toNat 1) (es[k].q.map mc)=q.map mc:=by rw [hq];rfl
 have hqm:es[k].q.map mc=mc m::q.map mc:=by rw [hq];rfl
 have hqop:qop (.nst 3 4 41) ((es.map en).set k R2) (k:Int)=true:=ZhK (WU hlk) (by rw [hR2];rfl)
 have hg3:WI ((es.map en).set k R2) k 3=es[k].s.map mc:=by
  unfold WI
  rw [WU hlk,hR2]
  rfl
 have hp3:Yl ((es.map en).set k R2) k 3 (AV.nest 4 false 41 E0)=(es.map en).set k R3:=by
  have:Yl ((es.map en).set k R2) k 3 (AV.nest 4 false 41 E0)=((es.map en).set k R2).set k (setCells R2 3 [AV.nest 4 false 41 E0]):=Kt (WU hlk)
  rw [this,List.set_set,hR2,hR3]
  rfl
 have hp4:Yl ((es.map en).set k R3) k 3 (AV.nest 4 true 41 ((es[k].s++[m]).map mc))=(es.map en).set k [I es[k].o,I es[k].v,.slice false 4 (q.map mc),.nest 4 true 41 ((es[k].s++[m]).map mc)]:=by
  have:Yl ((es.map en).set k R3) k 3 (AV.nest 4 true 41 ((es[k].s++[m]).map mc))=((es.map en).set k R3).set k (setCells R3 3 [AV.nest 4 true 41 ((es[k].s++[m]).map mc)]):=Kt (WU hlk)
  rw [this,List.set_set,hR3]
  rfl
 have hsm:es[k].s.map mc++(E0++[mc m])=(es[k].s++[m]).map mc:=by simp
 have r3:∀ R,(k:Int) < (((es.map en).set k R).length:Int):=fun R=>by rw [List.length_set];omega
 rw [Int.toNat_natCast,hf1,hf2]
 refine Zt r1 (Zt r2 (ZM (hel _) (ZM (YU (sh:=[.int .i64,.int .i64,.slice 1,.int .i64]) (r:=mv m) (cs:=mc m) _ (by decide) (by rw [hqm];rfl) rfl) (ZM (hel _) (Zt (by decide) (Zt (by rw [hqm,List.length_cons];omega) (Zt r1 (Zt (r3 _) ?_))))))))
 rw [hdrop,hse]
 refine Zg (fun ht=>?_) fun ht=>?_
 ·simp only [CQ,mv] at ht
  refine Zt r1 (Zt hqop (Zt (JR ?_ (by decide)) (Zt r1 (Zt ?_ (Zd (s43 m.w (by have:=hmok.2.2.2.1;omega)) (Jc ?_))))))
  ·rw [hg3];have:=hok.sl;simp;omega
  ·rw [hp3];exact r3 _
  ·rw [hg3,hp3,show ([AV.val (.int .i64 (mv m).1),AV.val (.int .i64 (mv m).2.1),AV.slice false 1 (mv m).2.2.1,AV.val (.int .i64 (mv m).2.2.2)] : List AV)=mc m from rfl,hsm,hp4,ZfA es k (Zb1 es[k] m q) (by unfold Zb1;rw [if_pos ht];rfl)]
   rfl
 ·simp only [CQ,mv] at ht
  refine Jc ?_
  rw [ZfA es k (Zb1 es[k] m q) (by unfold Zb1;rw [if_neg (by omega),hR2];rfl)]
  rfl
end Go.Proofs.Ytigknndkmlhmfaa
end

section
namespace Go.Proofs.Ytigknndkmlhmfaa
open Go Go.AM
set_option linter.unusedSimpArgs false
set_option linter.unusedVariables false
set_option maxRecDepth 100000
theorem Zb6 (a b:List Ms):tk (a++b)=tk a++tk b:=by
 unfold tk;rw [List.map_append,List.filter_append]
theorem ZkB {α:Type} {l:List α} {k:Nat} (h:k < l.length):l=l.take k++l[k]::l.drop (k+1):=by
 rw [← List.drop_eq_getElem_cons h,List.take_append_drop]
theorem Zjh {α:Type} {l:List α} {k:Nat} (h:k < l.length) (a:α):l.set k a=l.take k++a::l.drop (k+1):=List.set_eq_take_append_cons_drop ▸ by rw [if_pos h]
theorem Zld {es:List Ep} {k:Nat} (hk:k < es.length) (e:Ep) {r:List Int} (hp:(tk (e.q++e.s)).Perm (tk (es[k].q++es[k].s)++r)):(tkE (es.set k e)).Perm (tkE es++r):=by
 rw [Zjh hk]
 have h2:tkE es=tkE (es.take k)++(tk (es[k].q++es[k].s)++tkE (es.drop (k+1))):=by
  refine (congrArg tkE (ZkB hk)).trans ?_
  unfold tkE
  rw [List.flatMap_append,List.flatMap_cons]
 rw [h2]
 have h3:tkE (es.take k++e::es.drop (k+1))=tkE (es.take k)++(tk (e.q++e.s)++tkE (es.drop (k+1))):=by simp [tkE]
 rw [h3,List.append_assoc,List.append_assoc]
 refine List.Perm.append_left _ ?_
 refine (hp.append_right _).trans ?_
 rw [List.append_assoc]
 exact List.Perm.append_left _ List.perm_append_comm
theorem Zdr {n n':Int} {es:List Ep} (h:Vld n es) {k:Nat} (hk:k < es.length) {e:Ep} {r:List Int} (he:ZnD e) (ho:e.o=es[k].o) (h1:n≤n') (h2:n'≤1099511627776)
  (hp:(tk (e.q++e.s)).Perm (tk (es[k].q++es[k].s)++r)) (hr:∀ t∈r,n < t∧t≤n') (hnd:r.Nodup):Vld n' (es.set k e):=by
 have hn0:=h.n0
 have hperm:=Zld hk e hp
 refine ⟨by omega,h2,by rw [List.length_set];exact h.len,fun x hx=>?_,?_,?_,fun t ht=>?_⟩
 ·rcases List.mem_or_eq_of_mem_set hx with hx | rfl
  ·exact h.ok x hx
  ·exact he
 ·have hm:(es.set k e).map Ep.o=es.map Ep.o:=by
   rw [List.map_set,ho]
   apply List.ext_getElem?
   intro j
   rw [List.getElem?_set]
   by_cases hj:k=j
   ·subst hj;simp [hk]
   ·simp [hj]
  have h3:=List.pairwise_map.2 h.ord
  rw [← hm] at h3
  exact List.pairwise_map.1 h3
 ·refine (List.Perm.nodup_iff hperm).2 (List.nodup_append.2 ⟨h.nd,hnd,fun a ha b hb hab=>?_⟩)
  have:=h.le a ha
  have:=(hr b hb).1
  omega
 ·rcases List.mem_append.1 (hperm.mem_iff.1 ht) with ht | ht
  ·have:=h.le t ht;omega
  ·exact (hr t ht).2
theorem Zko {n:Int} {es:List Ep} (h:Vld n es) {k:Nat} (hk:k < es.length) {m:Ms} (hm:ZdE m) (h0:m.t=0) (hq:es[k].q.length < 8):Vld n (es.set k { es[k] with q:=es[k].q++[m] }):=by
 have hok:=h.ok _ (List.getElem_mem hk)
 refine Zdr (r:=[]) h hk ⟨hok.o0,hok.o1,hok.v0,hok.v1,by simp;omega,hok.sl,fun x hx=>?_,hok.sm⟩ rfl (Int.le_refl _) h.n1 ?_ (fun t ht=>by cases ht) List.nodup_nil
 ·rcases List.mem_append.1 hx with hx | hx
  ·exact hok.qm x hx
  ·rw [List.mem_singleton] at hx;subst hx;exact hm
 ·have:tk [m] = []:=by simp [tk,h0]
  simp only [Zb6,this,List.append_nil]
  exact List.Perm.refl _
theorem Zkd {n:Int} {es:List Ep} (h:Vld n es) {k:Nat} (hk:k < es.length) {m:Ms} (hm:ZdE m) (h0:m.t=n+1) (hn:n < 1099511627776) (hq:es[k].q.length < 8):Vld (n+1) (es.set k { es[k] with q:=es[k].q++[m] }):=by
 have hok:=h.ok _ (List.getElem_mem hk)
 have hn0:=h.n0
 refine Zdr (r:=[n+1]) h hk ⟨hok.o0,hok.o1,hok.v0,hok.v1,by simp;omega,hok.sl,fun x hx=>?_,hok.sm⟩ rfl (by omega) (by omega) ?_ (fun t ht=>?_) (by simp)
 ·rcases List.mem_append.1 hx with hx | hx
  ·exact hok.qm x hx
  ·rw [List.mem_singleton] at hx;subst hx;exact hm
 ·have:tk [m] = [n+1]:=by simp [tk,h0];omega
  simp only [Zb6,this,List.append_assoc]
  exact List.Perm.append_left _ List.perm_append_comm
 ·rw [List.mem_singleton] at ht;omega
theorem Zjz {n:Int} {es:List Ep} (h:Vld n es) {k:Nat} (hk:k < es.length) {m:Ms} {q:List Ms} (hq:es[k].q=m::q) (hs:es[k].s.length < 400):Vld n (es.set k (Zb1 es[k] m q)):=by
 have hok:=h.ok _ (List.getElem_mem hk)
 have hql:=hok.ql
 rw [hq] at hql
 have hm:ZdE m:=hok.qm m (by rw [hq];simp)
 have hqm:∀ x∈q,ZdE x:=fun x hx=>hok.qm x (by rw [hq];simp [hx])
 have h0:=hm.1
 unfold Zb1
 split
 ·rename_i ht
  refine Zdr (r:=[]) h hk ⟨hok.o0,hok.o1,hok.v0,hok.v1,by simp at hql ⊢; omega,by simp;omega,hqm,fun x hx=>?_⟩ rfl (Int.le_refl _) h.n1 ?_ (fun t ht=>by cases ht) List.nodup_nil
  ·rcases List.mem_append.1 hx with hx | hx
   ·exact hok.sm x hx
   ·rw [List.mem_singleton] at hx;subst hx;exact ⟨hm,by omega⟩
  ·rw [hq]
   have:tk (m::q)=tk [m]++tk q:=Zb6 [m] q
   simp only [Zb6,this,List.append_nil]
   rw [List.append_assoc,← List.append_assoc]
   exact List.perm_append_comm
 ·rename_i ht
  refine Zdr (r:=[]) h hk ⟨hok.o0,hok.o1,hok.v0,hok.v1,by simp at hql ⊢; omega,hok.sl,hqm,hok.sm⟩ rfl (Int.le_refl _) h.n1 ?_ (fun t ht=>by cases ht) List.nodup_nil
  rw [hq]
  have h2:tk [m] = []:=by
   have:m.t=0:=by omega
   simp [tk,this]
  have:tk (m::q)=tk [m]++tk q:=Zb6 [m] q
  simp only [Zb6,this,h2,List.append_nil,List.nil_append]
  exact List.Perm.refl _
theorem Zlz:Vld 0 []:=⟨by decide,by decide,by decide,(fun e he=>by cases he),List.Pairwise.nil,List.nodup_nil,(fun t ht=>by cases ht)⟩
theorem Zlf {o v:Int} (h1:0≤o) (h2:o≤1099511627775) (h3:0≤v) (h4:v < 32):Vld 0 [⟨o,v,[],[]⟩]:=
 ⟨by decide,by decide,by simp,fun e he=>by
  rw [List.mem_singleton] at he
  subst he
  exact ⟨h1,h2,h3,h4,by simp,by simp,(fun m hm=>by cases hm),(fun m hm=>by cases hm)⟩,List.pairwise_singleton _ _,by simp [tkE,tk],fun t ht=>by simp [tkE,tk] at ht⟩
theorem s9 (o v:Int) (h1:0≤o) (h2:o≤1099511627775) (h3:0≤v) (h4:v < 32):g9 0 E0 o v=some (0,([⟨o,v,[],[]⟩] : List Ep).map ec,0):=by
 refine YN ?_
 rw [Znx]
 refine Zd (s22 0 [] Zlz) (Zg (fun h=>by cases h) fun _=>Zd (s37 o h1 h2) (Zg (fun h=>by cases h) fun _=>Zd (s38 v h3 h4) (Zg (fun h=>by cases h) fun _=>Zd (s39 0 [] (by decide) List.Pairwise.nil) (Zt rfl ?_))))
 refine ZM (ZaV (ZkD (es:=[]) fun e he=>by cases he) _) (Zg (fun h=>by cases h) fun _=>Zg (fun h=>by cases h) fun _=>?_)
 obtain ⟨f,hf⟩:=ZmO
 rw [hf]
 refine ZM (ZlJ ..) (Zg (fun h=>by cases h) fun _=>Zd (s40 0 [] (by decide) fun e he=>by cases he) ?_)
 refine Zd (a:=[ec ⟨o,v,[],[]⟩]) ?_ (Jc rfl)
 rw [ZmZ]
 unfold ZnO
 rw [Y1 (by decide),Y1 (by decide),Y1 (by simp),Y1 (JR (by simp [W5]) (by decide))]
 rfl
end Go.Proofs.Ytigknndkmlhmfaa
end

section
namespace Go.Proofs.Ytigknndkmlhmfaa
open Go Go.AM
set_option linter.unusedSimpArgs false
set_option linter.unusedVariables false
set_option maxRecDepth 100000
theorem s8:g8=some true:=by kernel_rfl
def S (o v:Int) (q s:List Ms):List Ep:=[⟨o,v,q,s⟩]
theorem ZlI {c:Int} {w:LL} {s:Int} (t:Int) (h0:0≤t) (h1:0≤c) (h2:c < 32) (h3:w.length≤8) (h4 : -1≤s) (h5:s < 64):ZdE ⟨t,c,w,s⟩:=⟨h0,h1,h2,h3,h4,h5⟩
theorem ZfY {n o v:Int} {q s:List Ms} (h:Vld n (S o v q s)) {c:Int} {w:LL} {sl:Int} (hm:ZdE ⟨0,c,w,sl⟩) (hq:q.length < 8) :
  g13 n ((S o v q s).map ec) o c w sl=some (n,(S o v (q++[⟨0,c,w,sl⟩]) s).map ec,0)∧Vld n (S o v (q++[⟨0,c,w,sl⟩]) s):=
 ⟨s13 n (S o v q s) h 0 (by simp [S]) c w sl hm hq,Zko h (k:=0) (by simp [S]) hm rfl hq⟩
theorem ZkH {n o v:Int} {q s:List Ms} (h:Vld n (S o v q s)) {c:Int} {w:LL} {sl:Int} (hm:ZdE ⟨0,c,w,sl⟩) (hq:q.length < 8) (hv:v≠c) (hn:n < 1099511627776) :
  g12 n ((S o v q s).map ec) o c w sl=some (n+1,(S o v (q++[⟨n+1,c,w,sl⟩]) s).map ec,n+1,0)∧Vld (n+1) (S o v (q++[⟨n+1,c,w,sl⟩]) s):=
 ⟨s12 n (S o v q s) h 0 (by simp [S]) c w sl hm hq hv hn,Zkd h (k:=0) (by simp [S]) (m:=⟨n+1,c,w,sl⟩) (by have:=h.n0;obtain ⟨_,h2,h3,h4,h5,h6⟩:=hm;exact ⟨by show 0≤n+1;omega,h2,h3,h4,h5,h6⟩) rfl hn hq⟩
theorem Zkr {n o v:Int} {m:Ms} {q s:List Ms} (h:Vld n (S o v (m::q) s)) (hs:s.length < 400) :
  g14 n ((S o v (m::q) s).map ec) o v=some (n,(S o v q (if 0 < m.t then s++[m] else s)).map ec,m.t,m.c,m.w,m.s,0)∧Vld n (S o v q (if 0 < m.t then s++[m] else s)):=by
 have h1:=s14 n (S o v (m::q) s) h 0 (by simp [S]) m q rfl
 have h2:=Zjz h (k:=0) (by simp [S]) (m:=m) (q:=q) rfl hs
 have h3:(S o v (m::q) s).set 0 (Zb1 ((S o v (m::q) s)[0]'(by simp [S])) m q)=S o v q (if 0 < m.t then s++[m] else s):=by
  show [Zb1 ⟨o,v,m::q,s⟩ m q]=_
  unfold Zb1 S
  split<;>rfl
 rw [h3] at h1 h2
 exact ⟨h1,h2⟩
theorem ZhB {n o v:Int} {q s:List Ms} (h:Vld n (S o v q s)) {c:Int} {w:LL} {sl:Int} (hm:ZdE ⟨0,c,w,sl⟩) (hq:q.length=8) :
  g13 n ((S o v q s).map ec) o c w sl=some (0,E0,65)∧g12 n ((S o v q s).map ec) o c w sl=some (0,E0,0,65):=
 ⟨Zom n (S o v q s) h 0 (by simp [S]) c w sl hm hq,Zor n (S o v q s) h 0 (by simp [S]) c w sl hm hq⟩
theorem s10:g10=some (0,E0):=Zmr
theorem ZlS {o v:Int} (h1:0≤o) (h2:o≤1099511627775) (h3:0≤v) (h4:v < 32):g9 0 E0 o v=some (0,(S o v [] []).map ec,0)∧Vld 0 (S o v [] []):=⟨s9 o v h1 h2 h3 h4,Zlf h1 h2 h3 h4⟩
theorem mk8:ZdE ⟨0,2,[],3⟩:=ZlI 0 (by decide) (by decide) (by decide) (by simp) (by decide) (by decide)
theorem s4 (l:List Bool):g4 (Yo l)=some true:=by
 refine YN ?_
 rw [ZnE]
 obtain ⟨hc,hv⟩:=ZlS (o:=64) (v:=1) (by decide) (by decide) (by decide) (by decide)
 refine Zd s10 (Zd hc (Zg (fun h=>?_) fun _=>?_))
 ·simp only [CQ] at h;exact (h rfl).elim
 refine Yn (F:=fun k (s:Int×LL) i=>Zmd k (Yo l) s.1 s.2 i) 8 (fun i s=>∃ n q,s=(n,(S 64 1 q []).map ec)∧Vld n (S 64 1 q [])∧q.length=i∧n≤i∧∀ m∈q,m.s=3) (by decide)
  (fun k i s hi hs next=>?_) (0,(S 64 1 [] []).map ec) ⟨0,[],rfl,hv,rfl,by decide,fun m hm=>by cases hm⟩
 obtain ⟨n,q,rfl,hV,hq,hn,h3⟩:=hs
 have all3:∀ t,∀ m∈q++[⟨t,2,[],3⟩],m.s=3:=fun t m hm=>by
  rcases List.mem_append.1 hm with hm | hm
  ·exact h3 m hm
  ·rw [List.mem_singleton] at hm;subst hm;rfl
 refine ZM (ZlX ..) (Zg (fun h8=>?_) fun h8=>?_)
 ·simp only [CQ] at h8
  have hsend:Ret (fun r=>r=true) ((g13 n ((S 64 1 q []).map ec) 64 2 E0 3).bind fun (r4:Int×LL×Int)=>if (cop .neq r4.2.2 0)=true then some false else Zmd k (Yo l) r4.1 r4.2.1 (iop .add .i64 (i:Int) 1)):=by
   obtain ⟨g1,g2⟩:=ZfY hV mk8 (by omega)
   refine Zd g1 (Zg (fun h=>?_) fun _=>?_)
   ·simp only [CQ] at h;exact (h rfl).elim
   rw [ZbZ hi (by decide)]
   exact next (by omega) _ ⟨n,_,rfl,g2,by simp [hq],by omega,all3 0⟩
  refine Zg (fun hl=>?_) fun _=>hsend
  simp only [CQ,Yo,List.length_map] at hl
  refine ZM (Zhk (by omega) _) (Zg (fun _=>?_) fun _=>hsend)
  obtain ⟨g1,g2⟩:=ZkH hV mk8 (by omega) (by decide) (by omega)
  refine Zd g1 (Zg (fun h=>?_) fun _=>?_)
  ·simp only [CQ] at h;exact (h rfl).elim
  rw [ZbZ hi (by decide)]
  exact next (by omega) _ ⟨n+1,_,rfl,g2,by simp [hq],by omega,all3 _⟩
 ·simp only [CQ] at h8
  have h8':q.length=8:=by omega
  obtain ⟨f1,f2⟩:=ZhB hV mk8 h8'
  obtain ⟨m,q',rfl⟩:∃ m q',q=m::q':=by
   cases q with
   | nil => simp at h8'
   | cons m q' => exact ⟨m, q', rfl⟩
  obtain ⟨r1,r2⟩:=Zkr hV (by decide)
  obtain ⟨t1,_⟩:=ZfY r2 mk8 (by simp at h8';omega)
  refine Zd f1 (Zd f2 (Zd r1 (Zd t1 ?_)))
  refine Zg (fun _=>Zg (fun _=>Zg (fun _=>Zg (fun _=>Zg (fun _=>Zd s8 (Jc rfl)) fun h=>?_) fun h=>?_) fun h=>?_) fun h=>?_) fun h=>?_
  all_goals first | exact (h rfl).elim | skip
  ·simp only [CQ] at h
   exact (h (h3 m (by simp))).elim
end Go.Proofs.Ytigknndkmlhmfaa
end
