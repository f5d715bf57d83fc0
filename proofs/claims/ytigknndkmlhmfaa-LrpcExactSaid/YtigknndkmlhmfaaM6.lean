import Derived.Test.YtigknndkmlhmfaaGL
import Derived.Test.YtigknndkmlhmfaaRows
import Derived.Test.YtigknndkmlhmfaaChecked
import Derived.Test.YtigknndkmlhmfaaM4
import Derived.JoinedOf
import Derived.JoinedAt
import Derived.RowKit3
import Derived.KernelRfl
open Option renaming some→Xa
open Bool renaming true→Xb,false→Xc,eq_false_iff→TM
open Option.some renaming injEq→Xf
open Int renaming toNat→Xg,toNat_natCast→XQ,natCast_nonneg→UL
open List renaming length→Xh,length_map→Xi,map_cons→Xk,getElem?_map→Xl,mem_map→Xm,getElem?_eq_some_iff→Xn,getElem?_eq_getElem→Xq,length_append→Xr,mem_append→Xs,length_take→Xt,mem_cons→Xu,append_assoc→Xw,getElem_mem→Xy,getElem?_append_right→XB,all_eq_true→XC,replicate→XG,mem_singleton→XH,getElem?_drop→XI,map_append→XJ,length_cons→XN,mem_of_mem_take→XP,mem_of_mem_drop→XS,length_drop→XV,take_length→XW,nil_append→X4,length_set→Ud,mem_or_eq_of_mem_set→Ue,map_map→Uf,drop→Uh,map_take→Ui,take_succ_eq_append_getElem→Um,append_nil→Us,map_drop→Ut,map_set→Uv,getElem?_set→Uy,getElem_of_mem→Uz,ext_getElem?→UD,pairwise_iff_getElem→UH,take_append_drop→UI,map_congr_left→UO,take→UR,set_set→UU,take_append_of_le_length→UY,filter_append→U0,getElem?_modify→U2,mem_filter→U4,flatMap_append→U8,drop_drop→Ta,flatMap_cons→Tf,take_succ_cons→Tg,getElem_take→To,find?_eq_none→Tv,set_append_right→TE,drop_eq_getElem_cons→TF,nodup_append→TG,perm_append_comm→TH,pairwise_map→TI,length_filter_le→TJ,pairwise_append→TK,pairwise_cons→TL
open Nat renaming le_refl→XA,le_trans→XY,zero_le→XZ,add_zero→Ug,sub_self→U3
set_option linter.unusedVariables false
set_option linter.unusedSimpArgs false
set_option linter.defProp false
namespace Go.Proofs.Ytigknndkmlhmfaa
open Go Go.AM
set_option maxRecDepth 100000
noncomputable def F65:Fn:=⟨8,[2],[],[],0,[2,5,7],[],Try.f65,[.c (.slice 4)],[.c (.own Xb 80)],[]⟩
theorem Zve:F65.S.Ok Try.prog 65:=F65.ok Try.func65 (by kernel_rfl) trivial
noncomputable def g65 (x0:LL):Option (LL):=F65.S.g [.l x0]
theorem Zr8 (x0:LL):g65 x0 =
 (ZkL x0 fun r1=>
 if r1=Xb then
 Xa (E0)
 else
 Zm (ZV E0 x0 64)<|
 Xa ((E0++x0))):=by kernel_rfl
noncomputable def F75:Fn:=⟨8,[2],[],[],0,[2,5,7],[],Try.f75,[.c (.slice 4)],[.c (.own Xb 41)],[]⟩
theorem Zva:F75.S.Ok Try.prog 75:=F75.ok Try.func75 (by kernel_rfl) trivial
noncomputable def g75 (x0:LL):Option (LL):=F75.S.g [.l x0]
theorem ZsW (x0:LL):g75 x0 =
 (ZkL x0 fun r1=>
 if r1=Xb then
 Xa (E0)
 else
 Zm (ZV E0 x0 48)<|
 Xa ((E0++x0))):=by kernel_rfl
noncomputable def F43:Fn:=⟨8,[2],[],[],0,[],[],Try.f43,[.c (.slice 1)],[.c (.own Xc 44)],[]⟩
theorem Zs3:F43.S.Ok Try.prog 43:=F43.ok Try.func43 (by kernel_rfl) trivial
noncomputable def g43 (x0:LL):Option (LL):=F43.S.g [.l x0]
theorem ZsI (x0:LL):g43 x0 =
 (ZkL x0 fun r1=>
 if r1=Xb then
 Xa (E0)
 else
 Zm (ZV E0 x0 8)<|
 Xa ((E0++x0))):=by kernel_rfl
noncomputable def F66:Fn:=⟨24,[2],[(3,[(3,.c (.own Xb 41)),(8,.c (.int .i64)),(9,.c (.int .i64))])],[],0,[2],[],Try.f66,[.c (.slice 4)],[.c (.own Xb 41)],[(75,F75.S),(43,F43.S)]⟩
theorem ZuF:F66.S.Ok Try.prog 66:=F66.ok Try.func66 (by kernel_rfl) ⟨Zva,⟨Zs3,trivial⟩⟩
noncomputable def g66 (x0:LL):Option (LL):=F66.S.g [.l x0]
noncomputable def ZoS (k:Nat) (x0:LL) (x1:Int) (x2:Int):Option (LL):=F66.lp [2] 0 r0 k [.l x0,.i x1,.i x2]
theorem ZpB (k:Nat) (x0:LL) (x1:Int) (x2:Int):ZoS (k+1) x0 x1 x2 =
 (if (cop .lss x2 x1)=Xb then
 Zm ((0:Int)≤x2)<|
 Zm ((x2:Int) < (Xh x0:Int))<|
 ZB x0 x2 [.int .i64,.int .i64,.slice 1,.int .i64] fun (r3:Int×Int×LL×Int)=>
 (g43 r3.2.2.1).bind fun (r7:LL)=>
 Zm ((0:Int)≤x2)<|
 Zm ((x2:Int) < (Xh x0:Int))<|
 Zm ((0:Int)≤x2)<|
 Zm ((x2:Int) < (Xh x0:Int))<|
 ZoS k (Zq x0 (Xg x2) 2 [AV.slice Xc 1 r7]) x1 (iop .add .i64 x2 1)
 else
 Xa (x0)):=by kernel_rfl
theorem Zsn (x0:LL):g66 x0 =
 ((g75 x0).bind fun (r1:LL)=>
 ZoS J6 r1 (Xh r1:Int) 0):=by kernel_rfl
noncomputable def F40:Fn:=⟨35,[2],[(3,[(1,.box [.int .i64,.own Xb 2097232]),(2,.box [.int .i64,.slice 4]),(10,.mref 1 2),(11,.c (.int .i64)),(12,.c (.int .i64))])],[],0,[],[(2,[(1,1002)])],Try.f40,[.agg [.int .i64,.slice 4]],[.aggo [.int .i64,.own Xb 2097232]],[(65,F65.S),(66,F66.S)]⟩
theorem ZrL:F40.S.Ok Try.prog 40:=F40.ok Try.func40 (by kernel_rfl) ⟨Zve,⟨ZuF,trivial⟩⟩
noncomputable def g40 (x0:Int) (x1:LL):Option (Int×LL):=F40.S.g [.i x0,.l x1]
noncomputable def Zph (k:Nat) (x0:Int) (x1:LL) (x2:Int) (x3:LL) (x4:Int) (x5:Int):Option (Int×LL):=F40.lp [2] 0 r0 k [.i x0,.l x1,.i x2,.l x3,.i x4,.i x5]
theorem ZoN (k:Nat) (x0:Int) (x1:LL) (x2:Int) (x3:LL) (x4:Int) (x5:Int):Zph (k+1) x0 x1 x2 x3 x4 x5 =
 (if (cop .lss x5 x4)=Xb then
 Zm ((0:Int)≤x5)<|
 Zm ((x5:Int) < (Xh x1:Int))<|
 ZB (Zdx (JZ x1 (Xg x5) 0 4) 0 4) x5 [.int .i64,.int .i64,.slice 4,.slice 4] fun (r6:Int×Int×LL×LL)=>
 (g66 r6.2.2.1).bind fun (r10:LL)=>
 Zm ((0:Int)≤x5)<|
 Zm ((x5:Int) < (Xh (JZ x1 (Xg x5) 0 4):Int))<|
 Zm ((0:Int)≤x5)<|
 Zm ((x5:Int) < (Xh (JZ x1 (Xg x5) 0 4):Int))<|
 (g66 r6.2.2.2).bind fun (r11:LL)=>
 Zm ((0:Int)≤x5)<|
 Zm ((x5:Int) < (Xh (Jj (JZ x1 (Xg x5) 0 4) (Xg x5) 2 (AV.nest 4 Xb 41 r10)):Int))<|
 Zm ((0:Int)≤x5)<|
 Zm ((x5:Int) < (Xh (Jj (JZ x1 (Xg x5) 0 4) (Xg x5) 2 (AV.nest 4 Xb 41 r10)):Int))<|
 Zph k x0 (Jj (Jj (JZ x1 (Xg x5) 0 4) (Xg x5) 2 (AV.nest 4 Xb 41 r10)) (Xg x5) 3 (AV.nest 4 Xb 41 r11)) x2 x3 x4 (iop .add .i64 x5 1)
 else
 Xa (x0,x1)):=by kernel_rfl
theorem ZsU (x0:Int) (x1:LL):g40 x0 x1 =
 ((g65 x1).bind fun (r2:LL)=>
 Zph J6 x0 (ZmD r2) 0 E0 (Xh (ZmD r2):Int) 0):=by kernel_rfl
def Zku:Go.Shelf.Ren:=⟨fun | 4=>70 | n=>n,fun | 25=>41 | 0=>0 | 3=>3 | 4=>4 | 9=>9 | 20=>20 | 22=>62 | n=>n,fun | n=>n⟩
theorem ZsM:Go.Proofs.Lays8.n4 Try.prog Zku:={
 mixed:=by kernel_rfl
 f4:=⟨Try.f70.name,by decide,Try.func70.trans (congrArg Xa (by kernel_rfl))⟩
 t0:=Try.underlying0
 a0:=Try.isAgg0
 z0:=Try.sizeOf0
 v0:=Try.zeroValue0
 t3:=Try.underlying3
 a3:=Try.isAgg3
 z3:=Try.sizeOf3
 v3:=Try.zeroValue3
 t4:=Try.underlying4
 a4:=Try.isAgg4
 z4:=Try.sizeOf4
 v4:=Try.zeroValue4
 t9:=Try.underlying9
 a9:=Try.isAgg9
 z9:=Try.sizeOf9
 v9:=Try.zeroValue9
 t20:=Try.underlying20
 a20:=Try.isAgg20
 z20:=Try.sizeOf20
 v20:=Try.zeroValue20
 t22:=Try.underlying62
 a22:=Try.isAgg62
 z22:=Try.sizeOf62
 v22:=Try.zeroValue62 }
noncomputable def F70.S:Fun:=ZsP 41 48
theorem ZuS:F70.S.Ok Try.prog 70:=Zpy ZsM (by kernel_rfl) rfl rfl ⟨Try.f70,Try.func70,by kernel_rfl,by kernel_rfl⟩
noncomputable def g70 (x0:LL) (x1:Int):Option LL:=F70.S.g [.l x0,.i x1]
theorem Zr7 (x0:LL) (x1:Int):g70 x0 x1=ZqB 48 x0 x1:=rfl
noncomputable def F44:Fn:=⟨36,[2],[(3,[(0,.c (.slice 1)),(3,.c (.int .i64)),(9,.c (.slice 1)),(10,.c (.int .i64)),(11,.c (.int .i64))]),(11,[(6,.c (.own Xb 41)),(25,.c (.slice 1)),(26,.c (.int .i64)),(27,.c (.int .i64))])],[],0,[2,33],[],Try.f44,[.c (.slice 1)],[.c (.own Xb 41)],[(70,F70.S)]⟩
theorem Ztq:F44.S.Ok Try.prog 44:=F44.ok Try.func44 (by kernel_rfl) ⟨ZuS,trivial⟩
noncomputable def g44 (x0:LL):Option (LL):=F44.S.g [.l x0]
noncomputable def Zqv (k:Nat) (x0:LL) (x1:LL) (x2:Int) (x3:Int):Option (LL):=F44.lp [0,1,2] 0 r0 k [.l x0,.l x1,.i x2,.i x3]
theorem ZfF (k:Nat) (x0:LL) (x1:LL) (x2:Int) (x3:Int):Zqv (k+1) x0 x1 x2 x3 =
 (if (cop .lss x3 x2)=Xb then
 ZB x1 x3 [.slice 4] fun (r4:LL)=>
 Zm (ZV x0 r4 48)<|
 Zqv k (x0++r4) x1 x2 (iop .add .i64 x3 1)
 else
 Xa (x0)):=by kernel_rfl
noncomputable def Zq7 (k:Nat) (x0:LL) (x1:Int) (x2:LL) (x3:Int) (x4:Int):Option (LL):=F44.lp [0] 0 r0 k [.l x0,.i x1,.l x2,.i x3,.i x4]
theorem Zfb (k:Nat) (x0:LL) (x1:Int) (x2:LL) (x3:Int) (x4:Int):Zq7 (k+1) x0 x1 x2 x3 x4 =
 (if (cop .lss x4 x3)=Xb then
 ZB x2 x4 [.slice 4] fun (r5:LL)=>
 if (cop .lss (iop .add .i64 x1 (Xh r5:Int)) 0)=Xb then
 none
 else
 Zq7 k x0 (iop .add .i64 x1 (Xh r5:Int)) x2 x3 (iop .add .i64 x4 1)
 else
 (g70 E0 x1).bind fun (r5:LL)=>
 Zqv J6 r5 x0 (Xh x0:Int) 0):=by kernel_rfl
theorem ZsG (x0:LL):g44 x0 =
 (Zq7 J6 x0 0 x0 (Xh x0:Int) 0):=by kernel_rfl
noncomputable def F37:Fn:=⟨9,[2],[],[],0,[],[],Try.f37,[.c (.int .i64)],[.c (.bool)],[]⟩
theorem Zuk:F37.S.Ok Try.prog 37:=F37.ok Try.func37 (by kernel_rfl) trivial
noncomputable def g37 (x0:Int):Option (Bool):=F37.S.g [.i x0]
theorem Zqi (x0:Int):g37 x0 =
 (if (cop .geq x0 0)=Xb then
 Xa ((cop .leq x0 1099511627775))
 else
 Xa (Xc)):=by kernel_rfl
noncomputable def F38:Fn:=⟨9,[2],[],[],0,[],[],Try.f38,[.c (.int .i64)],[.c (.bool)],[]⟩
theorem Zs5:F38.S.Ok Try.prog 38:=F38.ok Try.func38 (by kernel_rfl) trivial
noncomputable def g38 (x0:Int):Option (Bool):=F38.S.g [.i x0]
theorem ZpX (x0:Int):g38 x0 =
 (if (cop .geq x0 0)=Xb then
 Xa ((cop .lss x0 32))
 else
 Xa (Xc)):=by kernel_rfl
noncomputable def F69:Fn:=⟨27,[2],[],[],0,[],[],Try.f69,[.agg [.int .i64,.int .i64,.slice 1,.int .i64]],[.c (.bool)],[(38,F38.S)]⟩
theorem ZtV:F69.S.Ok Try.prog 69:=F69.ok Try.func69 (by kernel_rfl) ⟨Zs5,trivial⟩
noncomputable def g69 (x0:Int) (x1:Int) (x2:LL) (x3:Int):Option (Bool):=F69.S.g [.i x0,.i x1,.l x2,.i x3]
theorem Zqg (x0:Int) (x1:Int) (x2:LL) (x3:Int):g69 x0 x1 x2 x3 =
 (if (cop .geq x0 0)=Xb then
 (g38 x1).bind fun (r4:Bool)=>
 if r4=Xb then
 if (cop .leq (Xh x2:Int) 8)=Xb then
 if (cop .geq x3 (-1))=Xb then
 Xa ((cop .lss x3 64))
 else
 Xa (Xc)
 else
 Xa (Xc)
 else
 Xa (Xc)
 else
 Xa (Xc)):=by kernel_rfl
noncomputable def F52:Fn:=⟨38,[2],[(4,[(1,.box [.int .i64,.int .i64,.slice 4,.slice 4]),(12,.c (.slice 4)),(13,.c (.int .i64)),(14,.c (.int .i64))]),(10,[(23,.c (.slice 4)),(24,.c (.int .i64)),(25,.c (.int .i64))])],[],0,[],[],Try.f52,[.agg [.int .i64,.int .i64,.slice 4,.slice 4]],[.c (.bool)],[(69,F69.S)]⟩
theorem Zvc:F52.S.Ok Try.prog 52:=F52.ok Try.func52 (by kernel_rfl) ⟨ZtV,trivial⟩
noncomputable def g52 (x0:Int) (x1:Int) (x2:LL) (x3:LL):Option (Bool):=F52.S.g [.i x0,.i x1,.l x2,.l x3]
noncomputable def Zko (k:Nat) (x0:LL) (x1:Int) (x2:Int):Option (Bool):=F52.lp [1,0,1,0] 0 r0 k [.l x0,.i x1,.i x2]
theorem ZiM (k:Nat) (x0:LL) (x1:Int) (x2:Int):Zko (k+1) x0 x1 x2 =
 (if (cop .lss x2 x1)=Xb then
 ZB x0 x2 [.int .i64,.int .i64,.slice 1,.int .i64] fun (r3:Int×Int×LL×Int)=>
 (g69 r3.1 r3.2.1 r3.2.2.1 r3.2.2.2).bind fun (r7:Bool)=>
 if (!r7)=Xb then
 Xa (Xc)
 else
 if (cop .eql r3.1 0)=Xb then
 Xa (Xc)
 else
 Zko k x0 x1 (iop .add .i64 x2 1)
 else
 Xa (Xb)):=by kernel_rfl
noncomputable def Zmj (k:Nat) (x0:Int) (x1:Int) (x2:LL) (x3:LL) (x4:LL) (x5:Int) (x6:Int):Option (Bool):=F52.lp [1,0] 0 r0 k [.i x0,.i x1,.l x2,.l x3,.l x4,.i x5,.i x6]
theorem ZiD (k:Nat) (x0:Int) (x1:Int) (x2:LL) (x3:LL) (x4:LL) (x5:Int) (x6:Int):Zmj (k+1) x0 x1 x2 x3 x4 x5 x6 =
 (if (cop .lss x6 x5)=Xb then
 ZB x4 x6 [.int .i64,.int .i64,.slice 1,.int .i64] fun (r7:Int×Int×LL×Int)=>
 (g69 r7.1 r7.2.1 r7.2.2.1 r7.2.2.2).bind fun (r11:Bool)=>
 if (!r11)=Xb then
 Xa (Xc)
 else
 Zmj k x0 x1 x2 x3 x4 x5 (iop .add .i64 x6 1)
 else
 Zko J6 x3 (Xh x3:Int) 0):=by kernel_rfl
theorem Zqh (x0:Int) (x1:Int) (x2:LL) (x3:LL):g52 x0 x1 x2 x3 =
 (if (cop .gtr (Xh x2:Int) 8)=Xb then
 Xa (Xc)
 else
 Zmj J6 x0 x1 x2 x3 x2 (Xh x2:Int) 0):=by kernel_rfl
noncomputable def F22:Fn:=⟨92,[2],[(5,[(1,.box [.int .i64,.slice 4]),(3,.c (.own Xb 1048668)),(24,.c (.slice 4)),(25,.c (.int .i64)),(26,.c (.int .i64))]),(10,[(1,.box [.int .i64,.slice 4]),(3,.c (.own Xb 1048668)),(24,.c (.slice 4)),(25,.c (.int .i64)),(26,.c (.int .i64)),(67,.c (.own Xb 41)),(68,.c (.int .i64)),(69,.c (.int .i64))])],[],0,[],[],Try.f22,[.agg [.int .i64,.slice 4]],[.c (.bool)],[(37,F37.S),(38,F38.S),(52,F52.S),(44,F44.S)]⟩
theorem Zn5:F22.S.Ok Try.prog 22:=F22.ok Try.func22 (by kernel_rfl) ⟨Zuk,⟨Zs5,⟨Zvc,⟨Ztq,trivial⟩⟩⟩⟩
noncomputable def g22 (x0:Int) (x1:LL):Option (Bool):=F22.S.g [.i x0,.l x1]
noncomputable def ZdS (rec0:List V→Option (Bool)) (k:Nat) (x0:Int) (x1:LL) (x2:LL) (x3:LL) (x4:Int) (x5:Int) (x6:LL) (x7:Int) (x8:Int):Option (Bool):=F22.lp [1,1,1,2,2,1,0,1,0,1,0,0,1,2] 1 (Zjd r0 0 rec0) k [.i x0,.l x1,.l x2,.l x3,.i x4,.i x5,.l x6,.i x7,.i x8]
theorem Zi7 (rec0:List V→Option (Bool)) (k:Nat) (x0:Int) (x1:LL) (x2:LL) (x3:LL) (x4:Int) (x5:Int) (x6:LL) (x7:Int) (x8:Int):ZdS rec0 (k+1) x0 x1 x2 x3 x4 x5 x6 x7 x8 =
 (if (cop .lss x8 x7)=Xb then
 Zm ((0:Int)≤x8)<|
 Zm ((x8:Int) < (Xh x6:Int))<|
 ZB x6 x8 [.int .i64,.int .i64,.slice 1,.int .i64] fun (r9:Int×Int×LL×Int)=>
 if (cop .eql r9.1 0)=Xb then
 ZdS rec0 k x0 x1 x2 x3 x4 x5 x6 x7 (iop .add .i64 x8 1)
 else
 Zm (qop .mapv x2 0=Xb)<|
 ZB (ZbJ x2 r9.1 [AV.val (.bool Xc)]) 0 [.bool,.bool] fun (r13:Bool×Bool)=>
 if r13.1=Xb then
 Xa (Xc)
 else
 if (cop .gtr r9.1 x0)=Xb then
 Xa (Xc)
 else
 Zm (qop .mapv x2 0=Xb)<|
 ZdS rec0 k x0 x1 (ZlC x2 r9.1 [AV.val (.bool Xb)]) x3 x4 x5 x6 x7 (iop .add .i64 x8 1)
 else
 rec0 [.i x0,.l x1,.l x2,.l x3,.i x4,.i (iop .add .i64 x5 1)]):=by kernel_rfl
noncomputable def Zn4 (k:Nat) (x0:Int) (x1:LL) (x2:LL) (x3:LL) (x4:Int) (x5:Int):Option (Bool):=F22.lp [1,1,1,0] 0 r0 k [.i x0,.l x1,.l x2,.l x3,.i x4,.i x5]
theorem ZiY (k:Nat) (x0:Int) (x1:LL) (x2:LL) (x3:LL) (x4:Int) (x5:Int):Zn4 (k+1) x0 x1 x2 x3 x4 x5 =
 (if (cop .lss x5 x4)=Xb then
 ZB x3 x5 [.int .i64,.int .i64,.slice 4,.slice 4] fun (r6:Int×Int×LL×LL)=>
 (g37 r6.1).bind fun (r10:Bool)=>
 if (!r10)=Xb then
 Xa (Xc)
 else
 (g38 r6.2.1).bind fun (r11:Bool)=>
 if (!r11)=Xb then
 Xa (Xc)
 else
 (g52 r6.1 r6.2.1 r6.2.2.1 r6.2.2.2).bind fun (r12:Bool)=>
 if (!r12)=Xb then
 Xa (Xc)
 else
 if (cop .gtr x5 0)=Xb then
 ZB x1 (iop .sub .i64 x5 1) [.int .i64,.int .i64,.slice 4,.slice 4] fun (r13:Int×Int×LL×LL)=>
 if (cop .geq r13.1 r6.1)=Xb then
 Xa (Xc)
 else
 (g44 ((E0++[[AV.slice Xc 4 r6.2.2.1]])++[[AV.slice Xc 4 r6.2.2.2]])).bind fun (r17:LL)=>
 ZdS (F22.lp [1,1,1,0] 0 r0 k) J6 x0 x1 x2 x3 x4 x5 r17 (Xh r17:Int) 0
 else
 (g44 ((E0++[[AV.slice Xc 4 r6.2.2.1]])++[[AV.slice Xc 4 r6.2.2.2]])).bind fun (r13:LL)=>
 ZdS (F22.lp [1,1,1,0] 0 r0 k) J6 x0 x1 x2 x3 x4 x5 r13 (Xh r13:Int) 0
 else
 Xa (Xb)):=by kernel_rfl
theorem ZpG (x0:Int) (x1:LL):g22 x0 x1 =
 (if (cop .lss x0 0)=Xb then
 Xa (Xc)
 else
 if (cop .gtr x0 1099511627776)=Xb then
 Xa (Xc)
 else
 if (cop .gtr (Xh x1:Int) 32)=Xb then
 Xa (Xc)
 else
 Zn4 J6 x0 x1 (E0++[[AV.slice Xc 2 E0]]) x1 (Xh x1:Int) 0):=by kernel_rfl
noncomputable def F39:Fn:=⟨21,[2],[(3,[(3,.c (.own Xb 1048653)),(8,.c (.slice 4)),(9,.c (.int .i64)),(10,.c (.int .i64))])],[],0,[],[],Try.f39,[.agg [.int .i64,.slice 4]],[.c (.own Xb 1048653)],[]⟩
theorem Zs4:F39.S.Ok Try.prog 39:=F39.ok Try.func39 (by kernel_rfl) trivial
noncomputable def g39 (x0:Int) (x1:LL):Option (LL):=F39.S.g [.i x0,.l x1]
noncomputable def ZoF (k:Nat) (x0:LL) (x1:LL) (x2:Int) (x3:Int):Option (LL):=F39.lp [0] 0 r0 k [.l x0,.l x1,.i x2,.i x3]
theorem ZoW (k:Nat) (x0:LL) (x1:LL) (x2:Int) (x3:Int):ZoF (k+1) x0 x1 x2 x3 =
 (if (cop .lss x3 x2)=Xb then
 ZB x1 x3 [.int .i64,.int .i64,.slice 4,.slice 4] fun (r4:Int×Int×LL×LL)=>
 Zm (qop .mapv x0 0=Xb)<|
 ZoF k (ZlC x0 r4.1 [AV.val (.int .i64 x3)]) x1 x2 (iop .add .i64 x3 1)
 else
 Xa (x0)):=by kernel_rfl
theorem ZrV (x0:Int) (x1:LL):g39 x0 x1 =
 (ZoF J6 (E0++[[AV.slice Xc 2 E0]]) x1 (Xh x1:Int) 0):=by kernel_rfl
noncomputable def F42:Fn:=⟨93,[8,9],[],[],0,[],[(20,[(12,2),(12,2)])],Try.f42,[.agg [.int .i64,.slice 4],.c (.int .i64),.agg [.int .i64,.int .i64,.slice 1,.int .i64],.c (.bool)],[.agg [.int .i64,.slice 4],.c (.int .i64)],[(22,F22.S),(69,F69.S),(39,F39.S),(40,F40.S),(43,F43.S)]⟩
theorem Zud:F42.S.Ok Try.prog 42:=F42.ok Try.func42 (by kernel_rfl) ⟨Zn5,⟨ZtV,⟨Zs4,⟨ZrL,⟨Zs3,trivial⟩⟩⟩⟩⟩
noncomputable def g42 (x0:Int) (x1:LL) (x2:Int) (x3:Int) (x4:Int) (x5:LL) (x6:Int) (x7:Bool):Option (Int×LL×Int):=F42.S.g [.i x0,.l x1,.i x2,.i x3,.i x4,.l x5,.i x6,.b x7]
theorem Zaz (x0:Int) (x1:LL) (x2:Int) (x3:Int) (x4:Int) (x5:LL) (x6:Int) (x7:Bool):g42 x0 x1 x2 x3 x4 x5 x6 x7 =
 ((g22 x0 x1).bind fun (r8:Bool)=>
 if (!r8)=Xb then
 Xa (0,E0,74)
 else
 (g69 x3 x4 x5 x6).bind fun (r9:Bool)=>
 if (!r9)=Xb then
 Xa (0,E0,1)
 else
 (g39 x0 x1).bind fun (r10:LL)=>
 Zm (qop .mapv r10 0=Xb)<|
 ZB (ZbJ r10 x2 [AV.val (.int .i64 0)]) 0 [.int .i64,.bool] fun (r11:Int×Bool)=>
 if (!r11.2)=Xb then
 Xa (0,E0,17)
 else
 ZB x1 r11.1 [.int .i64,.int .i64,.slice 4,.slice 4] fun (r13:Int×Int×LL×LL)=>
 if (cop .eql (Xh r13.2.2.1:Int) 8)=Xb then
 Xa (0,E0,65)
 else
 if x7=Xb then
 ZB x1 r11.1 [.int .i64,.int .i64,.slice 4,.slice 4] fun (r17:Int×Int×LL×LL)=>
 if (cop .eql r17.2.1 x4)=Xb then
 Xa (0,E0,4)
 else
 if x7=Xb then
 if (cop .eql x0 1099511627776)=Xb then
 Xa (0,E0,15)
 else
 (g40 x0 x1).bind fun (r21:Int×LL)=>
 if x7=Xb then
 (g43 x5).bind fun (r23:LL)=>
 Zm ((0:Int)≤r11.1)<|
 Zm ((r11.1:Int) < (Xh r21.2:Int))<|
 Zm ((0:Int)≤r11.1)<|
 Zm (qop (.nst 2 4 41) r21.2 r11.1=Xb)<|
 Zm (ZV (Yi r21.2 (Xg r11.1) 2) (E0++[[AV.val (.int .i64 (iop .add .i64 r21.1 1)),AV.val (.int .i64 x4),AV.slice Xc 1 r23,AV.val (.int .i64 x6)]]) 48)<|
 Zm ((0:Int)≤r11.1)<|
 Zm ((r11.1:Int) < (Xh (Jj r21.2 (Xg r11.1) 2 (AV.nest 4 Xc 41 E0)):Int))<|
 Zm ((0:Int)≤r11.1)<|
 Zm ((r11.1:Int) < (Xh (Jj r21.2 (Xg r11.1) 2 (AV.nest 4 Xc 41 E0)):Int))<|
 Xa ((iop .add .i64 r21.1 1),(Yl (Jj (Jj r21.2 (Xg r11.1) 2 (AV.nest 4 Xc 41 E0)) (Xg r11.1) 2 (AV.nest 4 Xb 41 ((Yi r21.2 (Xg r11.1) 2)++(E0++[[AV.val (.int .i64 (iop .add .i64 r21.1 1)),AV.val (.int .i64 x4),AV.slice Xc 1 r23,AV.val (.int .i64 x6)]]))))),0)
 else
 (g43 x5).bind fun (r23:LL)=>
 Zm ((0:Int)≤r11.1)<|
 Zm ((r11.1:Int) < (Xh r21.2:Int))<|
 Zm ((0:Int)≤r11.1)<|
 Zm (qop (.nst 2 4 41) r21.2 r11.1=Xb)<|
 Zm (ZV (Yi r21.2 (Xg r11.1) 2) (E0++[[AV.val (.int .i64 x3),AV.val (.int .i64 x4),AV.slice Xc 1 r23,AV.val (.int .i64 x6)]]) 48)<|
 Zm ((0:Int)≤r11.1)<|
 Zm ((r11.1:Int) < (Xh (Jj r21.2 (Xg r11.1) 2 (AV.nest 4 Xc 41 E0)):Int))<|
 Zm ((0:Int)≤r11.1)<|
 Zm ((r11.1:Int) < (Xh (Jj r21.2 (Xg r11.1) 2 (AV.nest 4 Xc 41 E0)):Int))<|
 Xa (r21.1,(Yl (Jj (Jj r21.2 (Xg r11.1) 2 (AV.nest 4 Xc 41 E0)) (Xg r11.1) 2 (AV.nest 4 Xb 41 ((Yi r21.2 (Xg r11.1) 2)++(E0++[[AV.val (.int .i64 x3),AV.val (.int .i64 x4),AV.slice Xc 1 r23,AV.val (.int .i64 x6)]]))))),0)
 else
 (g40 x0 x1).bind fun (r21:Int×LL)=>
 if x7=Xb then
 (g43 x5).bind fun (r23:LL)=>
 Zm ((0:Int)≤r11.1)<|
 Zm ((r11.1:Int) < (Xh r21.2:Int))<|
 Zm ((0:Int)≤r11.1)<|
 Zm (qop (.nst 2 4 41) r21.2 r11.1=Xb)<|
 Zm (ZV (Yi r21.2 (Xg r11.1) 2) (E0++[[AV.val (.int .i64 (iop .add .i64 r21.1 1)),AV.val (.int .i64 x4),AV.slice Xc 1 r23,AV.val (.int .i64 x6)]]) 48)<|
 Zm ((0:Int)≤r11.1)<|
 Zm ((r11.1:Int) < (Xh (Jj r21.2 (Xg r11.1) 2 (AV.nest 4 Xc 41 E0)):Int))<|
 Zm ((0:Int)≤r11.1)<|
 Zm ((r11.1:Int) < (Xh (Jj r21.2 (Xg r11.1) 2 (AV.nest 4 Xc 41 E0)):Int))<|
 Xa ((iop .add .i64 r21.1 1),(Yl (Jj (Jj r21.2 (Xg r11.1) 2 (AV.nest 4 Xc 41 E0)) (Xg r11.1) 2 (AV.nest 4 Xb 41 ((Yi r21.2 (Xg r11.1) 2)++(E0++[[AV.val (.int .i64 (iop .add .i64 r21.1 1)),AV.val (.int .i64 x4),AV.slice Xc 1 r23,AV.val (.int .i64 x6)]]))))),0)
 else
 (g43 x5).bind fun (r23:LL)=>
 Zm ((0:Int)≤r11.1)<|
 Zm ((r11.1:Int) < (Xh r21.2:Int))<|
 Zm ((0:Int)≤r11.1)<|
 Zm (qop (.nst 2 4 41) r21.2 r11.1=Xb)<|
 Zm (ZV (Yi r21.2 (Xg r11.1) 2) (E0++[[AV.val (.int .i64 x3),AV.val (.int .i64 x4),AV.slice Xc 1 r23,AV.val (.int .i64 x6)]]) 48)<|
 Zm ((0:Int)≤r11.1)<|
 Zm ((r11.1:Int) < (Xh (Jj r21.2 (Xg r11.1) 2 (AV.nest 4 Xc 41 E0)):Int))<|
 Zm ((0:Int)≤r11.1)<|
 Zm ((r11.1:Int) < (Xh (Jj r21.2 (Xg r11.1) 2 (AV.nest 4 Xc 41 E0)):Int))<|
 Xa (r21.1,(Yl (Jj (Jj r21.2 (Xg r11.1) 2 (AV.nest 4 Xc 41 E0)) (Xg r11.1) 2 (AV.nest 4 Xb 41 ((Yi r21.2 (Xg r11.1) 2)++(E0++[[AV.val (.int .i64 x3),AV.val (.int .i64 x4),AV.slice Xc 1 r23,AV.val (.int .i64 x6)]]))))),0)
 else
 if x7=Xb then
 if (cop .eql x0 1099511627776)=Xb then
 Xa (0,E0,15)
 else
 (g40 x0 x1).bind fun (r17:Int×LL)=>
 if x7=Xb then
 (g43 x5).bind fun (r19:LL)=>
 Zm ((0:Int)≤r11.1)<|
 Zm ((r11.1:Int) < (Xh r17.2:Int))<|
 Zm ((0:Int)≤r11.1)<|
 Zm (qop (.nst 2 4 41) r17.2 r11.1=Xb)<|
 Zm (ZV (Yi r17.2 (Xg r11.1) 2) (E0++[[AV.val (.int .i64 (iop .add .i64 r17.1 1)),AV.val (.int .i64 x4),AV.slice Xc 1 r19,AV.val (.int .i64 x6)]]) 48)<|
 Zm ((0:Int)≤r11.1)<|
 Zm ((r11.1:Int) < (Xh (Jj r17.2 (Xg r11.1) 2 (AV.nest 4 Xc 41 E0)):Int))<|
 Zm ((0:Int)≤r11.1)<|
 Zm ((r11.1:Int) < (Xh (Jj r17.2 (Xg r11.1) 2 (AV.nest 4 Xc 41 E0)):Int))<|
 Xa ((iop .add .i64 r17.1 1),(Yl (Jj (Jj r17.2 (Xg r11.1) 2 (AV.nest 4 Xc 41 E0)) (Xg r11.1) 2 (AV.nest 4 Xb 41 ((Yi r17.2 (Xg r11.1) 2)++(E0++[[AV.val (.int .i64 (iop .add .i64 r17.1 1)),AV.val (.int .i64 x4),AV.slice Xc 1 r19,AV.val (.int .i64 x6)]]))))),0)
 else
 (g43 x5).bind fun (r19:LL)=>
 Zm ((0:Int)≤r11.1)<|
 Zm ((r11.1:Int) < (Xh r17.2:Int))<|
 Zm ((0:Int)≤r11.1)<|
 Zm (qop (.nst 2 4 41) r17.2 r11.1=Xb)<|
 Zm (ZV (Yi r17.2 (Xg r11.1) 2) (E0++[[AV.val (.int .i64 x3),AV.val (.int .i64 x4),AV.slice Xc 1 r19,AV.val (.int .i64 x6)]]) 48)<|
 Zm ((0:Int)≤r11.1)<|
 Zm ((r11.1:Int) < (Xh (Jj r17.2 (Xg r11.1) 2 (AV.nest 4 Xc 41 E0)):Int))<|
 Zm ((0:Int)≤r11.1)<|
 Zm ((r11.1:Int) < (Xh (Jj r17.2 (Xg r11.1) 2 (AV.nest 4 Xc 41 E0)):Int))<|
 Xa (r17.1,(Yl (Jj (Jj r17.2 (Xg r11.1) 2 (AV.nest 4 Xc 41 E0)) (Xg r11.1) 2 (AV.nest 4 Xb 41 ((Yi r17.2 (Xg r11.1) 2)++(E0++[[AV.val (.int .i64 x3),AV.val (.int .i64 x4),AV.slice Xc 1 r19,AV.val (.int .i64 x6)]]))))),0)
 else
 (g40 x0 x1).bind fun (r17:Int×LL)=>
 if x7=Xb then
 (g43 x5).bind fun (r19:LL)=>
 Zm ((0:Int)≤r11.1)<|
 Zm ((r11.1:Int) < (Xh r17.2:Int))<|
 Zm ((0:Int)≤r11.1)<|
 Zm (qop (.nst 2 4 41) r17.2 r11.1=Xb)<|
 Zm (ZV (Yi r17.2 (Xg r11.1) 2) (E0++[[AV.val (.int .i64 (iop .add .i64 r17.1 1)),AV.val (.int .i64 x4),AV.slice Xc 1 r19,AV.val (.int .i64 x6)]]) 48)<|
 Zm ((0:Int)≤r11.1)<|
 Zm ((r11.1:Int) < (Xh (Jj r17.2 (Xg r11.1) 2 (AV.nest 4 Xc 41 E0)):Int))<|
 Zm ((0:Int)≤r11.1)<|
 Zm ((r11.1:Int) < (Xh (Jj r17.2 (Xg r11.1) 2 (AV.nest 4 Xc 41 E0)):Int))<|
 Xa ((iop .add .i64 r17.1 1),(Yl (Jj (Jj r17.2 (Xg r11.1) 2 (AV.nest 4 Xc 41 E0)) (Xg r11.1) 2 (AV.nest 4 Xb 41 ((Yi r17.2 (Xg r11.1) 2)++(E0++[[AV.val (.int .i64 (iop .add .i64 r17.1 1)),AV.val (.int .i64 x4),AV.slice Xc 1 r19,AV.val (.int .i64 x6)]]))))),0)
 else
 (g43 x5).bind fun (r19:LL)=>
 Zm ((0:Int)≤r11.1)<|
 Zm ((r11.1:Int) < (Xh r17.2:Int))<|
 Zm ((0:Int)≤r11.1)<|
 Zm (qop (.nst 2 4 41) r17.2 r11.1=Xb)<|
 Zm (ZV (Yi r17.2 (Xg r11.1) 2) (E0++[[AV.val (.int .i64 x3),AV.val (.int .i64 x4),AV.slice Xc 1 r19,AV.val (.int .i64 x6)]]) 48)<|
 Zm ((0:Int)≤r11.1)<|
 Zm ((r11.1:Int) < (Xh (Jj r17.2 (Xg r11.1) 2 (AV.nest 4 Xc 41 E0)):Int))<|
 Zm ((0:Int)≤r11.1)<|
 Zm ((r11.1:Int) < (Xh (Jj r17.2 (Xg r11.1) 2 (AV.nest 4 Xc 41 E0)):Int))<|
 Xa (r17.1,(Yl (Jj (Jj r17.2 (Xg r11.1) 2 (AV.nest 4 Xc 41 E0)) (Xg r11.1) 2 (AV.nest 4 Xb 41 ((Yi r17.2 (Xg r11.1) 2)++(E0++[[AV.val (.int .i64 x3),AV.val (.int .i64 x4),AV.slice Xc 1 r19,AV.val (.int .i64 x6)]]))))),0)):=by kernel_rfl
noncomputable def F13:Fn:=⟨21,[10,11],[],[],0,[],[],Try.f13,[.agg [.int .i64,.slice 4],.c (.int .i64),.c (.int .i64),.c (.slice 1),.c (.int .i64)],[.agg [.int .i64,.slice 4],.c (.int .i64)],[(42,F42.S)]⟩
theorem Zu7:F13.S.Ok Try.prog 13:=F13.ok Try.func13 (by kernel_rfl) ⟨Zud,trivial⟩
noncomputable def g13 (x0:Int) (x1:LL) (x2:Int) (x3:Int) (x4:LL) (x5:Int):Option (Int×LL×Int):=F13.S.g [.i x0,.l x1,.i x2,.i x3,.l x4,.i x5]
theorem Zgr (x0:Int) (x1:LL) (x2:Int) (x3:Int) (x4:LL) (x5:Int):g13 x0 x1 x2 x3 x4 x5 =
 ((g42 x0 x1 x2 0 x3 x4 x5 Xc).bind fun (r6:Int×LL×Int)=>
 Xa (r6.1,r6.2.1,r6.2.2)):=by kernel_rfl
noncomputable def F12:Fn:=⟨27,[10,11,12],[],[],0,[],[],Try.f12,[.agg [.int .i64,.slice 4],.c (.int .i64),.c (.int .i64),.c (.slice 1),.c (.int .i64)],[.agg [.int .i64,.slice 4],.c (.int .i64),.c (.int .i64)],[(42,F42.S)]⟩
theorem ZtW:F12.S.Ok Try.prog 12:=F12.ok Try.func12 (by kernel_rfl) ⟨Zud,trivial⟩
noncomputable def g12 (x0:Int) (x1:LL) (x2:Int) (x3:Int) (x4:LL) (x5:Int):Option (Int×LL×Int×Int):=F12.S.g [.i x0,.l x1,.i x2,.i x3,.l x4,.i x5]
theorem ZcY (x0:Int) (x1:LL) (x2:Int) (x3:Int) (x4:LL) (x5:Int):g12 x0 x1 x2 x3 x4 x5 =
 ((g42 x0 x1 x2 0 x3 x4 x5 Xb).bind fun (r6:Int×LL×Int)=>
 Xa (r6.1,r6.2.1,r6.1,r6.2.2)):=by kernel_rfl
noncomputable def F14:Fn:=⟨92,[6,7,8],[],[],0,[],[(17,[(11,2),(11,2)])],Try.f14,[.agg [.int .i64,.slice 4],.c (.int .i64),.c (.int .i64)],[.agg [.int .i64,.slice 4],.agg [.int .i64,.int .i64,.slice 1,.int .i64],.c (.int .i64)],[(22,F22.S),(39,F39.S),(40,F40.S),(43,F43.S)]⟩
theorem Zuj:F14.S.Ok Try.prog 14:=F14.ok Try.func14 (by kernel_rfl) ⟨Zn5,⟨Zs4,⟨ZrL,⟨Zs3,trivial⟩⟩⟩⟩
noncomputable def g14 (x0:Int) (x1:LL) (x2:Int) (x3:Int):Option (Int×LL×Int×Int×LL×Int×Int):=F14.S.g [.i x0,.l x1,.i x2,.i x3]
theorem Zhf (x0:Int) (x1:LL) (x2:Int) (x3:Int):g14 x0 x1 x2 x3 =
 ((g22 x0 x1).bind fun (r4:Bool)=>
 if (!r4)=Xb then
 Xa (0,E0,0,0,E0,0,74)
 else
 (g39 x0 x1).bind fun (r5:LL)=>
 Zm (qop .mapv r5 0=Xb)<|
 ZB (ZbJ r5 x2 [AV.val (.int .i64 0)]) 0 [.int .i64,.bool] fun (r6:Int×Bool)=>
 if (!r6.2)=Xb then
 Xa (0,E0,0,0,E0,0,17)
 else
 ZB x1 r6.1 [.int .i64,.int .i64,.slice 4,.slice 4] fun (r8:Int×Int×LL×LL)=>
 if (cop .neq r8.2.1 x3)=Xb then
 Xa (0,E0,0,0,E0,0,8)
 else
 ZB x1 r6.1 [.int .i64,.int .i64,.slice 4,.slice 4] fun (r12:Int×Int×LL×LL)=>
 if (cop .eql (Xh r12.2.2.1:Int) 0)=Xb then
 Xa (0,E0,0,0,E0,0,2)
 else
 (g40 x0 x1).bind fun (r16:Int×LL)=>
 Zm ((0:Int)≤r6.1)<|
 Zm ((r6.1:Int) < (Xh r16.2:Int))<|
 ZB (Zdx (JZ r16.2 (Xg r6.1) 2 1) 2 1) r6.1 [.slice 4] fun (r18:LL)=>
 ZB r18 0 [.int .i64,.int .i64,.slice 1,.int .i64] fun (r19:Int×Int×LL×Int)=>
 ZB (Zdx (JZ (JZ r16.2 (Xg r6.1) 2 1) (Xg r6.1) 2 1) 2 1) r6.1 [.slice 4] fun (r23:LL)=>
 Zm ((0:Int)≤1)<|
 Zm ((1:Int)≤(Xh r23:Int))<|
 Zm ((0:Int)≤r6.1)<|
 Zm ((r6.1:Int) < (Xh (JZ (JZ r16.2 (Xg r6.1) 2 1) (Xg r6.1) 2 1):Int))<|
 if (cop .gtr r19.1 0)=Xb then
 Zm ((0:Int)≤r6.1)<|
 Zm (qop (.nst 3 4 41) (Zq (JZ (JZ r16.2 (Xg r6.1) 2 1) (Xg r6.1) 2 1) (Xg r6.1) 2 [AV.slice Xc 4 (Uh (Xg 1) r23)]) r6.1=Xb)<|
 Zm (ZV (Yi (Zq (JZ (JZ r16.2 (Xg r6.1) 2 1) (Xg r6.1) 2 1) (Xg r6.1) 2 [AV.slice Xc 4 (Uh (Xg 1) r23)]) (Xg r6.1) 3) (E0++[[AV.val (.int .i64 r19.1),AV.val (.int .i64 r19.2.1),AV.slice Xc 1 r19.2.2.1,AV.val (.int .i64 r19.2.2.2)]]) 48)<|
 Zm ((0:Int)≤r6.1)<|
 Zm ((r6.1:Int) < (Xh (Jj (Zq (JZ (JZ r16.2 (Xg r6.1) 2 1) (Xg r6.1) 2 1) (Xg r6.1) 2 [AV.slice Xc 4 (Uh (Xg 1) r23)]) (Xg r6.1) 3 (AV.nest 4 Xc 41 E0)):Int))<|
 (g43 r19.2.2.1).bind fun (r24:LL)=>
 Xa (r16.1,(Yl (Jj (Jj (Zq (JZ (JZ r16.2 (Xg r6.1) 2 1) (Xg r6.1) 2 1) (Xg r6.1) 2 [AV.slice Xc 4 (Uh (Xg 1) r23)]) (Xg r6.1) 3 (AV.nest 4 Xc 41 E0)) (Xg r6.1) 3 (AV.nest 4 Xb 41 ((Yi (Zq (JZ (JZ r16.2 (Xg r6.1) 2 1) (Xg r6.1) 2 1) (Xg r6.1) 2 [AV.slice Xc 4 (Uh (Xg 1) r23)]) (Xg r6.1) 3)++(E0++[[AV.val (.int .i64 r19.1),AV.val (.int .i64 r19.2.1),AV.slice Xc 1 r19.2.2.1,AV.val (.int .i64 r19.2.2.2)]]))))),r19.1,r19.2.1,r24,r19.2.2.2,0)
 else
 Xa (r16.1,(Yl (Zq (JZ (JZ r16.2 (Xg r6.1) 2 1) (Xg r6.1) 2 1) (Xg r6.1) 2 [AV.slice Xc 4 (Uh (Xg 1) r23)])),r19.1,r19.2.1,r19.2.2.1,r19.2.2.2,0)):=by kernel_rfl
noncomputable def F48.S:Fun:=Ztu Xb 41
theorem Zu2:F48.S.Ok Try.prog 48:=delF_ok (T:=62) (B:=4) (I:=3) (U:=0) (e:=41) (bytes:=48) mixed (by kernel_rfl) Try.func48 (by kernel_rfl) ⟨by kernel_rfl,by kernel_rfl,by kernel_rfl⟩
noncomputable def g48 (x0:LL) (x1 x2:Int):Option LL:=F48.S.g [.l x0,.i x1,.i x2]
theorem Zso (x0:LL) (x1 x2:Int):g48 x0 x1 x2=Zsm x0 x1 x2:=rfl
noncomputable def F47:Fn:=⟨8,[3],[],[1],0,[],[],Try.f47,[.agg [.int .i64,.int .i64,.slice 1,.int .i64],.box [.int .i64]],[.c (.bool)],[]⟩
theorem Zut:F47.S.Ok Try.prog 47:=F47.ok Try.func47 (by kernel_rfl) trivial
noncomputable def g47 (x0:Int) (x1:Int) (x2:LL) (x3:Int) (x4:Int):Option (Bool×Int):=F47.S.g [.i x0,.i x1,.l x2,.i x3,.i x4]
theorem ZpU (x0:Int) (x1:Int) (x2:LL) (x3:Int) (x4:Int):g47 x0 x1 x2 x3 x4 =
 (Xa ((cop .eql x0 x4),x4)):=by kernel_rfl
noncomputable def Zgy:Fn:=⟨19,[4],[(2,[(0,.c (.slice 4)),(1,.clo 47 [19]),(7,.c (.int .i64)),(8,.c (.int .i64)),(19,.gbox [.int .i64])])],[],1,[],[],Try.f46,[.c (.slice 4),.clo 47 [19],.dead,.dead,.dead,.dead,.dead,.dead,.dead,.dead,.dead,.dead,.dead,.dead,.dead,.dead,.dead,.dead,.dead,.gbox [.int .i64]],[.c (.int .i64)],[(47,F47.S)]⟩
theorem ZqX:Zgy.S.Ok Try.prog 46:=Zgy.ok Try.func46 (by kernel_rfl) ⟨Zut,trivial⟩
noncomputable def ZiS (x0:LL) (x1:Int):Option (Int×Int):=Zgy.S.g [.l x0,.i x1]
noncomputable def ZaA (k:Nat) (x0:LL) (x1:Int) (x2:Int) (x3:Int):Option (Int×Int):=Zgy.lp [0] 0 r0 k [.l x0,.i x1,.i x2,.i x3]
theorem Zdy (k:Nat) (x0:LL) (x1:Int) (x2:Int) (x3:Int):ZaA (k+1) x0 x1 x2 x3 =
 (if (cop .lss x2 x1)=Xb then
 ZB x0 x2 [.int .i64,.int .i64,.slice 1,.int .i64] fun (r4:Int×Int×LL×Int)=>
 (g47 r4.1 r4.2.1 r4.2.2.1 r4.2.2.2 x3).bind fun (r8:Bool×Int)=>
 if r8.1=Xb then
 Xa (x2,r8.2)
 else
 ZaA k x0 x1 (iop .add .i64 x2 1) r8.2
 else
 Xa ((-1),x3)):=by kernel_rfl
theorem Zg5 (x0:LL) (x1:Int):ZiS x0 x1 =
 (ZaA J6 x0 (Xh x0:Int) 0 x1):=by kernel_rfl
noncomputable def F17:Fn:=⟨76,[8,9,10],[(6,[(2,.c (.int .i64)),(3,.c (.slice 1)),(4,.box [.int .i64,.slice 4]),(5,.box [.int .i64]),(8,.box [.int .i64,.slice 4]),(9,.box [.int .i64,.int .i64,.int .i64,.slice 1]),(26,.c (.slice 4)),(27,.c (.int .i64)),(28,.c (.int .i64))])],[],0,[],[(14,[(14,2),(14,2)])],Try.f17,[.agg [.int .i64,.slice 4],.c (.int .i64),.c (.int .i64),.c (.slice 1)],[.agg [.int .i64,.slice 4],.agg [.int .i64,.int .i64,.int .i64,.slice 1],.c (.int .i64)],[(22,F22.S),(46,Zgy.S),(40,F40.S),(48,F48.S),(43,F43.S)]⟩
theorem Zuc:F17.S.Ok Try.prog 17:=F17.ok Try.func17 (by kernel_rfl) ⟨Zn5,⟨ZqX,⟨ZrL,⟨Zu2,⟨Zs3,trivial⟩⟩⟩⟩⟩
noncomputable def g17 (x0:Int) (x1:LL) (x2:Int) (x3:Int) (x4:LL):Option (Int×LL×Int×Int×Int×LL×Int):=F17.S.g [.i x0,.l x1,.i x2,.i x3,.l x4]
noncomputable def ZmG (k:Nat) (x0:Int) (x1:LL) (x2:Int) (x3:LL) (x4:Int) (x5:Int) (x6:LL) (x7:Int) (x8:Int) (x9:Int) (x10:LL) (x11:LL) (x12:Int) (x13:Int):Option (Int×LL×Int×Int×Int×LL×Int):=F17.lp [0,1,1,0] 0 r0 k [.i x0,.l x1,.i x2,.l x3,.i x4,.i x5,.l x6,.i x7,.i x8,.i x9,.l x10,.l x11,.i x12,.i x13]
theorem Zi4 (k:Nat) (x0:Int) (x1:LL) (x2:Int) (x3:LL) (x4:Int) (x5:Int) (x6:LL) (x7:Int) (x8:Int) (x9:Int) (x10:LL) (x11:LL) (x12:Int) (x13:Int):ZmG (k+1) x0 x1 x2 x3 x4 x5 x6 x7 x8 x9 x10 x11 x12 x13 =
 (if (cop .lss x13 x12)=Xb then
 ZB x11 x13 [.int .i64,.int .i64,.slice 4,.slice 4] fun (r14:Int×Int×LL×LL)=>
 (ZiS r14.2.2.2 x4).bind fun (r18:Int×Int)=>
 if (cop .lss r18.1 0)=Xb then
 ZmG k x0 x1 x2 x3 r18.2 x5 x6 x7 x8 x9 x10 x11 x12 (iop .add .i64 x13 1)
 else
 if (cop .neq r14.2.1 x0)=Xb then
 Xa (0,E0,0,0,0,E0,8)
 else
 (g40 x2 x3).bind fun (r20:Int×LL)=>
 Zm ((0:Int)≤x13)<|
 Zm ((x13:Int) < (Xh r20.2:Int))<|
 Zm ((0:Int)≤x13)<|
 Zm (qop (.nst 3 4 41) r20.2 x13=Xb)<|
 (g48 (Yi r20.2 (Xg x13) 3) r18.1 (iop .add .i64 r18.1 1)).bind fun (r22:LL)=>
 Zm ((0:Int)≤x13)<|
 Zm ((x13:Int) < (Xh (Jj r20.2 (Xg x13) 3 (AV.nest 4 Xc 41 E0)):Int))<|
 Zm ((0:Int)≤x13)<|
 Zm ((x13:Int) < (Xh (Jj r20.2 (Xg x13) 3 (AV.nest 4 Xc 41 E0)):Int))<|
 ZB r14.2.2.2 r18.1 [.int .i64,.int .i64,.slice 1,.int .i64] fun (r23:Int×Int×LL×Int)=>
 (g43 x1).bind fun (r27:LL)=>
 Xa (r20.1,(Yl (Jj (Jj r20.2 (Xg x13) 3 (AV.nest 4 Xc 41 E0)) (Xg x13) 3 (AV.nest 4 Xb 41 r22))),r18.2,r23.2.1,0,r27,0)
 else
 Xa (0,E0,0,0,0,E0,17)):=by kernel_rfl
theorem ZiW (x0:Int) (x1:LL) (x2:Int) (x3:Int) (x4:LL):g17 x0 x1 x2 x3 x4 =
 ((g22 x0 x1).bind fun (r5:Bool)=>
 if (!r5)=Xb then
 Xa (0,E0,0,0,0,E0,74)
 else
 if (cop .gtr (Xh x4:Int) 8)=Xb then
 Xa (0,E0,0,0,0,E0,1)
 else
 ZmG J6 x3 x4 x0 x1 x2 0 E0 0 0 0 E0 x1 (Xh x1:Int) 0):=by kernel_rfl
noncomputable def F10:Fn:=⟨2,[0],[],[],0,[],[],Try.f10,[],[.agg [.int .i64,.slice 4]],[]⟩
theorem Zvk:F10.S.Ok Try.prog 10:=F10.ok Try.func10 (by kernel_rfl) trivial
noncomputable def F41.S:Fun:=Zt6 Xc 80 64
theorem ZuK:F41.S.Ok Try.prog 41:=insF_ok (T:=26) (B:=4) (I:=3) (e:=80) (fO:=67) (fR:=68) mixed (by kernel_rfl) Try.func41 (by kernel_rfl) ⟨by kernel_rfl,by kernel_rfl,by kernel_rfl⟩ Try.func67 (by kernel_rfl) (by kernel_rfl) (by kernel_rfl) (by kernel_rfl)
noncomputable def g41 (x0:LL) (x1:Int) (x2:LL):Option LL:=F41.S.g [.l x0,.i x1,.l x2]
theorem Zsg (x0:LL) (x1:Int) (x2:LL):g41 x0 x1 x2=ZtH 64 x0 x1 x2:=rfl
noncomputable def F9:Fn:=⟨68,[6,7],[(11,[(1,.c (.int .i64)),(2,.c (.int .i64)),(3,.box [.int .i64,.slice 4]),(6,.box [.int .i64,.slice 4]),(10,.c (.int .i64))])],[],0,[],[(14,[(11,2)])],Try.f9,[.agg [.int .i64,.slice 4],.c (.int .i64),.c (.int .i64)],[.agg [.int .i64,.slice 4],.c (.int .i64)],[(22,F22.S),(37,F37.S),(38,F38.S),(39,F39.S),(40,F40.S),(41,F41.S)]⟩
theorem ok9:F9.S.Ok Try.prog 9:=F9.ok Try.func9 (by kernel_rfl) ⟨Zn5,⟨Zuk,⟨Zs5,⟨Zs4,⟨ZrL,⟨ZuK,trivial⟩⟩⟩⟩⟩⟩
noncomputable def g9 (x0:Int) (x1:LL) (x2:Int) (x3:Int):Option (Int×LL×Int):=F9.S.g [.i x0,.l x1,.i x2,.i x3]
noncomputable def Zs2 (k:Nat) (x0:Int) (x1:Int) (x2:Int) (x3:LL) (x4:Int) (x5:LL) (x6:Int):Option (Int×LL×Int):=F9.lp [0,1,0,1,0,1,3,1,1,0] 0 r0 k [.i x0,.i x1,.i x2,.l x3,.i x4,.l x5,.i x6]
theorem Zrh (k:Nat) (x0:Int) (x1:Int) (x2:Int) (x3:LL) (x4:Int) (x5:LL) (x6:Int):Zs2 (k+1) x0 x1 x2 x3 x4 x5 x6 =
 (if (cop .lss x6 (Xh x3:Int))=Xb then
 ZB x3 x6 [.int .i64,.int .i64,.slice 4,.slice 4] fun (r7:Int×Int×LL×LL)=>
 if (cop .lss r7.1 x0)=Xb then
 Zs2 k x0 x1 x2 x3 x4 x5 (iop .add .i64 x6 1)
 else
 (g40 x2 x3).bind fun (r11:Int×LL)=>
 (g41 (Yl r11.2) x6 (E0++[[AV.val (.int .i64 x0),AV.val (.int .i64 x1),AV.slice Xc 4 E0,AV.slice Xc 4 E0]])).bind fun (r13:LL)=>
 Xa (r11.1,r13,0)
 else
 (g40 x2 x3).bind fun (r7:Int×LL)=>
 (g41 (Yl r7.2) x6 (E0++[[AV.val (.int .i64 x0),AV.val (.int .i64 x1),AV.slice Xc 4 E0,AV.slice Xc 4 E0]])).bind fun (r9:LL)=>
 Xa (r7.1,r9,0)):=by kernel_rfl
theorem ZkG (x0:Int) (x1:LL) (x2:Int) (x3:Int):g9 x0 x1 x2 x3 =
 ((g22 x0 x1).bind fun (r4:Bool)=>
 if (!r4)=Xb then
 Xa (0,E0,74)
 else
 (g37 x2).bind fun (r5:Bool)=>
 if (!r5)=Xb then
 Xa (0,E0,1)
 else
 (g38 x3).bind fun (r6:Bool)=>
 if (!r6)=Xb then
 Xa (0,E0,1)
 else
 (g39 x0 x1).bind fun (r7:LL)=>
 Zm (qop .mapv r7 0=Xb)<|
 ZB (ZbJ r7 x2 [AV.val (.int .i64 0)]) 0 [.int .i64,.bool] fun (r8:Int×Bool)=>
 if r8.2=Xb then
 Xa (0,E0,56)
 else
 if (cop .eql (Xh x1:Int) 32)=Xb then
 Xa (0,E0,15)
 else
 Zs2 J6 x2 x3 x0 x1 0 E0 0):=by kernel_rfl
noncomputable def F8:Fn:=⟨90,[0],[],[],0,[],[],Try.f8,[],[.c (.bool)],[(10,F10.S),(9,F9.S),(12,F12.S),(14,F14.S),(17,F17.S),(22,F22.S)]⟩
theorem ok8:F8.S.Ok Try.prog 8:=F8.ok Try.func8 (by kernel_rfl) ⟨Zvk,⟨ok9,⟨ZtW,⟨Zuj,⟨Zuc,⟨Zn5,trivial⟩⟩⟩⟩⟩⟩
noncomputable def g8:Option (Bool):=F8.S.g []
theorem behind : ∃ ws, behindMainWord (wordsSigns Try.prog.initOrder.toList) = "cut".toList :: ws := by
 have h:Try.prog.initOrder.toList=_:=String.toList_ofList (l:=_)
 rw [h]
 exact Zg8 (by kernel_rfl) (by kernel_rfl) (by kernel_rfl) (by kernel_rfl) (by kernel_rfl) (by kernel_rfl)
theorem Zsf:Try.prog.mayEnter=Xb:=behind.elim fun _ h=>Go.AM.enters_of h (by kernel_rfl) (by kernel_rfl) (by kernel_rfl)
theorem ZtE:Try.prog.liftsFinal=Xc:=behind.elim fun _ h=>Go.AM.final_of h
theorem ZsY:Try.prog.make=Xa .cut:=behind.elim fun _ h=>Go.AM.make_of h
theorem laid:laidOutB Try.prog=Xb:=by kernel_rfl
theorem ZlB:ownKnob Try.prog.godebug=none:=by kernel_rfl
theorem Zc0 {d:Nat} {cs:List AV} (h:TyR Try.prog (d+1) 3 cs):∃ z,cs = [I z]:=by
 simp only [TyR,Try.underlying3] at h
 obtain ⟨z,h,_⟩:=h
 exact ⟨z,h⟩
def u64 (z:Int):AV:=.val (.int .u64 z)
theorem ZpT {d:Nat} {cs:List AV} (h:TyR Try.prog (d+1) 44 cs):∃ z,cs = [u64 z]:=by
 simp only [TyR,Try.underlying44] at h
 obtain ⟨z,h,_⟩:=h
 exact ⟨z,h⟩
theorem arg_int {x:AV} (h:ZbA Try.prog 8 3 x):∃ z,x=I z:=by
 simp only [ZbA,Try.underlying3] at h
 obtain ⟨z,hz⟩:=Zc0 h.2
 exact ⟨z,by simpa using hz⟩
def Ztd (z:Int):List AV:=[u64 z]
def ZR (l:List Int):LL:=l.map Ztd
def ZrQ (z:Int):List AV:=[I z]
def Zn (l:List Int):LL:=l.map ZrQ
theorem VW {α β:Type} {f:α→β} {p:α→Prop} : ∀ (xs:List β),(∀ x∈xs,∃ a,x=f a∧p a)→∃ l:List α,xs=l.map f∧∀ a∈l,p a
 | [], _ => ⟨[], rfl, by simp⟩
 | x :: xs, h => by
  obtain ⟨a,h1,h2⟩:=h x (by simp)
  obtain ⟨l,h3,h4⟩:=VW xs fun y hy=>h y (by simp [hy])
  refine ⟨a::l,by rw [h1,h3];rfl,fun b hb=>?_⟩
  rcases Xu.1 hb with rfl | hb
  ·exact h2
  ·exact h4 b hb
theorem ZlS:Try.prog.cellsOf 44=1:=by kernel_rfl
theorem Zmx {x:AV} (h:ZbA Try.prog 8 22 x):∃ l,x = .slice Xc 1 (ZR l)∧l.length≤maxLen:=by
 simp only [ZbA,Try.underlying22] at h
 have hh:=h.2
 rw [TyR] at hh
 simp only [Try.underlying22,ZlS] at hh
 obtain ⟨xs,h1,h2,h3⟩:=hh
 obtain ⟨l,rfl,h5⟩:=VW (f:=Ztd) (p:=fun _=>True) xs fun y hy=>by
  obtain ⟨z,hz⟩:=ZpT (h3 y hy)
  exact ⟨z,hz,trivial⟩
 exact ⟨l,by simpa [ZR] using h1,by simpa using h2⟩
def Zrq:List TypeId:=[3,4,22,23,24,28,44,65]
theorem ZtJ (t:TypeId) (h:Zrq.contains t=Xb):ZbK Try.prog 8 t=Xb∧t < Try.prog.types.size∧Try.prog.readableRec t=Xb:=by
 have h2:Zrq.all (fun t=>ZbK Try.prog 8 t&&decide (t < Try.prog.types.size)&&Try.prog.readableRec t)=Xb:=by kernel_rfl
 rw [XC] at h2
 have:=h2 t (by simpa using h)
 simpa [and_assoc] using this
theorem ZiL {n:Nat} (h:n < 2^63):n+1 < J6:=by
 have:(2:Nat)^64≤J6:=by decide
 omega
theorem Zau {α γ:Type} {f:α→List AV} {sh:List Sh} {v:α→ShsT sh} (hf:∀ x,Zmo sh (f x)=Xa (v x)) {l:List α} {i:Nat} (h:i < l.length) (k:ShsT sh→Option γ):ZB (l.map f) (i:Int) sh k=k (v l[i]):=by
 refine JS k (by omega) (cs:=f l[i]) ?_ (hf _)
 rw [XQ,Xl,Xq h]
 rfl
theorem ZD {a b:LL} {k:Nat} (h:a.length+b.length≤4096) (hk:k≤10000):ZV a b k:=by
 unfold ZV Jc
 have:(a.length+b.length)*(k+1)≤4096*10001:=Nat.mul_le_mul h (by omega)
 omega
def Ret {α:Type} (P:α→Prop) (o:Option α):Prop:=∃ r,o=Xa r∧P r
theorem Zd {α:Type} {P:α→Prop} {a:α} (h:P a):Ret P (Xa a):=⟨a,rfl,h⟩
theorem Yc {α β:Type} {P:β→Prop} {Q:α→Prop} {o:Option α} {f:α→Option β} (h:Ret Q o) (k:∀ r,Q r→Ret P (f r)):Ret P (o.bind f):=by
 obtain ⟨r,rfl,hr⟩:=h
 exact k r hr
theorem Zb {α:Type} {P:α→Prop} {c:Prop} {_:Decidable c} {a b:Option α} (h1:c→Ret P a) (h2:¬ c→Ret P b):Ret P (if c then a else b):=by
 split
 ·exact h1 ‹_›
 ·exact h2 ‹_›
theorem Zc {α:Type} {P:α→Prop} {p:Prop} {_:Decidable p} {x:Option α} (h:p) (k:Ret P x):Ret P (Zm p x):=by
 rw [JX h];exact k
theorem Ze {α:Type} {P:α→Prop} {a b:Option α} (h:a=b) (k:Ret P b):Ret P a:=h ▸ k
theorem Za {α β:Type} {P:β→Prop} {o:Option α} {a:α} {f:α→Option β} (h:o=Xa a) (k:Ret P (f a)):Ret P (o.bind f):=by
 subst h;exact k
theorem ZA {α:Type} {o:Option α} {a:α} (h:Ret (fun r=>r=a) o):o=Xa a:=by
 obtain ⟨r,e,rfl⟩:=h
 exact e
theorem KM {σ γ:Type} {P:γ→Prop} {F:Nat→σ→Int→Option γ} {n:Nat} (J:Nat→σ→Prop) (hn:n < 2^63)
  (step:∀ (k i:Nat) (s:σ),i < n→J i s→(∀ s',J (i+1) s'→Ret P (F k s' ((i+1:Nat):Int)))→Ret P (F (k+1) s (i:Int)))
  (last:∀ (k:Nat) (s:σ),J n s→Ret P (F (k+1) s (n:Int))) (s:σ) (h:J 0 s):Ret P (F J6 s 0):=by
 have key:∀ (j i fuel:Nat) (s:σ),i+j=n→j < fuel→J i s→Ret P (F fuel s (i:Int)):=by
  intro j
  induction j with
  | zero =>
   intro i fuel s h hf hj
   obtain ⟨q,rfl⟩:∃ q,fuel=q+1:=⟨fuel-1,by omega⟩
   have:i=n:=by omega
   subst this
   exact last q s hj
  | succ j ih =>
   intro i fuel s h hf hj
   obtain ⟨q,rfl⟩:∃ q,fuel=q+1:=⟨fuel-1,by omega⟩
   exact step q i s (by omega) hj fun s' hs=>ih (i+1) q s' (by omega) (by omega) hs
 exact key n 0 J6 s (by omega) (by have:=ZiL hn;omega) h
theorem Zu {σ γ:Type} {P:γ→Prop} {F:Nat→σ→Int→Option γ} (n:Nat) (J:Nat→σ→Prop) (hn:n < 1000)
  (step:∀ (k i:Nat) (s:σ),i≤n→J i s→(i < n→∀ s',J (i+1) s'→Ret P (F k s' ((i+1:Nat):Int)))→Ret P (F (k+1) s (i:Int))) (s:σ) (h:J 0 s):Ret P (F J6 s 0):=by
 refine KM (F:=F) (n:=n) J (by omega) (fun k i s hi hj ih=>step k i s (by omega) hj fun _=>ih) (fun k s hj=>step k n s (XA _) hj fun h=>absurd h (Nat.lt_irrefl _)) s h
theorem Ji {i n:Nat} (h:i≤n) (hn:n < 1000):iop .add .i64 (i:Int) 1=((i+1:Nat):Int):=by
 rw [Zni (by omega) (by omega)];omega
theorem Zd4 {γ:Type} {l:List Int} {i:Nat} (h:i < l.length) (k:Int→Option γ):ZB (ZR l) (i:Int) [.int .u64] k=k l[i]:=Zau (f:=Ztd) (sh:=[.int .u64]) (v:=fun x=>x) (fun _=>rfl) h k
theorem Kw {γ:Type} {l:List Int} {i:Nat} (h:i < l.length) (k:Int→Option γ):ZB (Zn l) (i:Int) [.int .i64] k=k l[i]:=Zau (f:=ZrQ) (sh:=[.int .i64]) (v:=fun x=>x) (fun _=>rfl) h k
theorem Zok {l:LL} {i o:Nat} {v:List AV} (h:∀ r,l[i]? = Xa r→setCells r o v=r):Zq l i o v=l:=by
 unfold Zq
 apply UD
 intro j
 rw [U2]
 by_cases hij:i=j
 ·subst hij
  cases hx:l[i]? with
  | none => rfl
  | some r => simp [h r hx]
 ·cases hx:l[j]? with
  | none => rfl
  | some r => simp [hij]
structure Ms where
 t:Int
 c:Int
 w:LL
 s:Int
def mc (m:Ms):List AV:=[I m.t,I m.c,.slice Xc 1 m.w,I m.s]
def mv (m:Ms):Int×Int×LL×Int:=(m.t,m.c,m.w,m.s)
def KV (m:Ms):Prop:=0≤m.t∧0≤m.c∧m.c < 32∧m.w.length≤8∧-1≤m.s∧m.s < 64
structure Ep where
 o:Int
 v:Int
 q:List Ms
 s:List Ms
def ec (e:Ep):List AV:=[I e.o,I e.v,.slice Xc 4 (e.q.map mc),.slice Xc 4 (e.s.map mc)]
def ev (e:Ep):Int×Int×LL×LL:=(e.o,e.v,e.q.map mc,e.s.map mc)
def en (e:Ep):List AV:=[I e.o,I e.v,.nest 4 Xb 41 (e.q.map mc),.nest 4 Xb 41 (e.s.map mc)]
theorem Jo {γ:Type} {l:List Ms} {i:Nat} (h:i < l.length) (k:Int×Int×LL×Int→Option γ):ZB (l.map mc) (i:Int) [.int .i64,.int .i64,.slice 1,.int .i64] k=k (mv l[i]):=Zau (f:=mc) (sh:=[.int .i64,.int .i64,.slice 1,.int .i64]) (v:=mv) (fun _=>rfl) h k
theorem ZX {γ:Type} {l:List Ep} {i:Nat} (h:i < l.length) (k:Int×Int×LL×LL→Option γ):ZB (l.map ec) (i:Int) [.int .i64,.int .i64,.slice 4,.slice 4] k=k (ev l[i]):=Zau (f:=ec) (sh:=[.int .i64,.int .i64,.slice 4,.slice 4]) (v:=ev) (fun _=>rfl) h k
theorem s65 (x:LL) (h:x.length < 1000):g65 x=Xa x:=by
 rw [Zr8]
 have hr:ZV E0 x 64:=ZD (by simp;omega) (by decide)
 cases x with
 | nil => simp [ZkL, Zm, hr]
 | cons a x => simp [ZkL, Zm, hr]
theorem s75 (x:LL) (h:x.length < 1000):g75 x=Xa x:=by
 rw [ZsW]
 have hr:ZV E0 x 48:=ZD (by simp;omega) (by decide)
 cases x with
 | nil => simp [ZkL, Zm, hr]
 | cons a x => simp [ZkL, Zm, hr]
theorem s43 (x:LL) (h:x.length < 1000):g43 x=Xa x:=by
 rw [ZsI]
 have hr:ZV E0 x 8:=ZD (by simp;omega) (by decide)
 cases x with
 | nil => simp [ZkL, Zm, hr]
 | cons a x => simp [ZkL, Zm, hr]
theorem s66 (ms:List Ms) (hl:ms.length < 1000) (hw:∀ m∈ms,m.w.length < 1000):g66 (ms.map mc)=Xa (ms.map mc):=by
 refine ZA ?_
 rw [Zsn]
 refine Za (s75 _ (by simpa using hl)) ?_
 rw [Xi]
 refine Zu (F:=fun k (s:LL) i=>ZoS k s (ms.length:Int) i) ms.length (fun _ s=>s=ms.map mc) hl (fun k i s hi hs next=>?_) (ms.map mc) rfl
 subst hs
 refine Ze (ZpB ..) (Zb (fun h=>?_) fun _=>Zd rfl)
 simp only [CQ] at h
 have hi':i < ms.length:=by omega
 have r1:(0:Int)≤(i:Int):=UL i
 have r2:(i:Int) < ((ms.map mc).length:Int):=by rw [Xi];omega
 refine Zc r1 (Zc r2 (Ze (Jo hi' _) (Za (s43 ms[i].w (hw _ (Xy hi'))) (Zc r1 (Zc r2 (Zc r1 (Zc r2 ?_)))))))
 rw [Ji hi hl]
 refine next hi' _ (Zok fun r hr=>?_)
 rw [XQ,Xl,Xq hi'] at hr
 simp only [Option.map_some,Xf] at hr
 subst hr
 rfl
theorem Zsd (es:List Ep):ZmD (es.map ec)=es.map ec:=by
 unfold ZmD
 rw [Uf]
 exact UO fun e _=>rfl
theorem Zcz (es:List Ep):Yl (es.map en)=es.map ec:=by
 unfold Yl
 rw [Uf]
 exact UO fun e _=>rfl
def mix (es:List Ep) (i:Nat):LL:=(es.take i).map en++(es.drop i).map ec
theorem Zss {es:List Ep} {i:Nat} (h:i < es.length):(mix es i)[i]? = Xa (ec es[i]):=by
 unfold mix
 rw [XB (by simp;omega)]
 have:i-((es.take i).map en).length=0:=by simp;omega
 rw [this,Xl,XI,Ug,Xq h]
 rfl
theorem ZhZ (es:List Ep) (i:Nat):(mix es i).length=es.length:=by
 simp only [mix,Xr,Xi,Xt,XV];omega
theorem Jt {α:Type} {l:List α} {i:Nat} {f:α→α} {a:α} (h:l[i]? = Xa a):l.modify i f=l.set i (f a):=by
 apply UD
 intro j
 rw [U2,Uy]
 have hi:=(Xn.1 h).1
 by_cases hij:i=j
 ·subst hij
  rw [h]
  simp [hi]
 ·simp [hij]
theorem ZbL {α:Type} {l:List α} {i:Nat} {f:α→α} {a:α} (h:l[i]? = Xa a) (hf:f a=a):l.modify i f=l:=by
 rw [Jt h,hf]
 apply UD
 intro j
 rw [Uy]
 have hi:=(Xn.1 h).1
 by_cases hij:i=j
 ·subst hij
  rw [h]
  simp [hi]
 ·simp [hij]
theorem Zps {es:List Ep} {i:Nat} (h:i < es.length):(mix es i).set i (en es[i])=mix es (i+1):=by
 have h1:((es.take i).map en).length=i:=by simp;omega
 unfold mix
 rw [TE _ _ (by omega),h1,U3,TF h,Xk,List.set_cons_zero,Um h,XJ,Xw]
 rfl
theorem s40 (n:Int) (es:List Ep) (hl:es.length < 1000) (hq:∀ e∈es,e.q.length < 1000∧e.s.length < 1000∧(∀ m∈e.q,m.w.length < 1000)∧∀ m∈e.s,m.w.length < 1000):g40 n (es.map ec)=Xa (n,es.map en):=by
 refine ZA ?_
 rw [ZsU]
 refine Za (s65 _ (by simpa using hl)) ?_
 rw [Zsd,Xi]
 have h0:es.map ec=mix es 0:=by simp [mix]
 have hn:es.map en=mix es es.length:=by simp [mix]
 rw [h0,hn]
 refine Zu (F:=fun k (s:LL) i=>Zph k n s 0 E0 (es.length:Int) i) es.length (fun i s=>s=mix es i) hl (fun k i s hi hs next=>?_) (mix es 0) rfl
 subst hs
 refine Ze (ZoN ..) (Zb (fun h=>?_) fun h=>?_)
 ·simp only [CQ] at h
  have hi':i < es.length:=by omega
  have r1:(0:Int)≤(i:Int):=UL i
  have hat:=Zss hi'
  have hz:JZ (mix es i) i 0 4=mix es i:=ZbL hat rfl
  have hel:∀ (k:Int×Int×LL×LL→Option (Int×LL)),ZB (Zdx (mix es i) 0 4) (i:Int) [.int .i64,.int .i64,.slice 4,.slice 4] k=k (ev es[i]):=fun k=>JS (sh:=[.int .i64,.int .i64,.slice 4,.slice 4]) k r1 (cs:=ec es[i]) (by
   rw [XQ]
   unfold Zdx
   rw [Xl,hat]
   rfl) rfl
  have r2:(i:Int) < ((mix es i).length:Int):=by rw [ZhZ];omega
  obtain ⟨q1,q2,q3,q4⟩:=hq _ (Xy hi')
  rw [XQ,hz]
  obtain ⟨R1,hR1⟩:∃ R1:List AV,R1 = [I es[i].o,I es[i].v,.nest 4 Xb 41 (es[i].q.map mc),.slice Xc 4 (es[i].s.map mc)]:=⟨_,rfl⟩
  have hp1:Jj (mix es i) i 2 (.nest 4 Xb 41 (es[i].q.map mc))=(mix es i).set i R1:=by
   rw [hR1];exact Jt hat
  have hp2:Jj ((mix es i).set i R1) i 3 (.nest 4 Xb 41 (es[i].s.map mc))=mix es (i+1):=by
   have hb:((mix es i).set i R1)[i]? = Xa R1:=by rw [Uy];simp [ZhZ,hi']
   have:Jj ((mix es i).set i R1) i 3 (.nest 4 Xb 41 (es[i].s.map mc))=((mix es i).set i R1).set i (en es[i]):=by
    rw [hR1] at hb ⊢
    exact Jt hb
   rw [this,UU,Zps hi']
  have r3:(i:Int) < (((mix es i).set i R1).length:Int):=by rw [Ud,ZhZ];omega
  refine Zc r1 (Zc r2 (Ze (hel _) (Za (s66 es[i].q q1 q3) (Zc r1 (Zc r2 (Zc r1 (Zc r2 (Za (s66 es[i].s q2 q4) ?_))))))))
  rw [hp1]
  refine Zc r1 (Zc r3 (Zc r1 (Zc r3 ?_)))
  rw [hp2,Ji hi hl]
  exact next hi' _ rfl
 ·simp only [CQ] at h
  have:i=es.length:=by omega
  subst this
  exact Zd rfl
theorem s37 (o:Int) (h0:0≤o) (h1:o≤1099511627775):g37 o=Xa Xb:=by
 refine ZA ?_
 rw [Zqi]
 refine Zb (fun _=>Zd ?_) fun h=>?_
 ·simp only [CQ];exact h1
 ·simp only [CQ] at h;omega
theorem s38 (o:Int) (h0:0≤o) (h1:o < 32):g38 o=Xa Xb:=by
 refine ZA ?_
 rw [ZpX]
 refine Zb (fun _=>Zd ?_) fun h=>?_
 ·simp only [CQ];exact h1
 ·simp only [CQ] at h;omega
theorem s69 (m:Ms) (h:KV m):g69 m.t m.c m.w m.s=Xa Xb:=by
 obtain ⟨h1,h2,h3,h4,h5,h6⟩:=h
 refine ZA ?_
 rw [Zqg]
 refine Zb (fun _=>Za (s38 m.c h2 h3) (Zb (fun _=>Zb (fun _=>Zb (fun _=>Zd ?_) fun h=>?_) fun h=>?_) fun h=>?_)) fun h=>?_
 ·simp only [CQ];exact h6
 ·simp only [CQ] at h;omega
 ·simp only [CQ] at h;omega
 ·exact (h rfl).elim
 ·simp only [CQ] at h;omega
structure Zlk (e:Ep):Prop where
 o0:0≤e.o
 o1:e.o≤1099511627775
 v0:0≤e.v
 v1:e.v < 32
 ql:e.q.length≤8
 sl:e.s.length≤400
 qm:∀ m∈e.q,KV m
 sm:∀ m∈e.s,KV m∧m.t≠0
theorem s52 (e:Ep) (h:Zlk e):g52 e.o e.v (e.q.map mc) (e.s.map mc)=Xa Xb:=by
 refine ZA ?_
 have hql:=h.ql
 have hsl:=h.sl
 rw [Zqh]
 refine Zb (fun hh=>?_) fun _=>?_
 ·simp only [CQ,Xi] at hh;omega
 have hlast:Ret (fun r=>r=Xb) (Zko J6 (e.s.map mc) (Xh (e.s.map mc):Int) 0):=by
  rw [Xi]
  refine Zu (F:=fun k (_:Unit) i=>Zko k (e.s.map mc) (e.s.length:Int) i) e.s.length (fun _ _=>True) (by omega) (fun k i _ hi _ next=>?_) () trivial
  refine Ze (ZiM ..) (Zb (fun hh=>?_) fun _=>Zd rfl)
  simp only [CQ] at hh
  have hi':i < e.s.length:=by omega
  obtain ⟨m1,m2⟩:=h.sm _ (Xy hi')
  refine Ze (Jo hi' _) (Za (s69 _ m1) (Zb (fun h=>by cases h) fun _=>Zb (fun h=>?_) fun _=>?_))
  ·simp only [CQ,mv] at h;exact (m2 h).elim
  ·rw [Ji hi (by omega)]
   exact next hi' () trivial
 rw [Xi]
 refine Zu (F:=fun k (_:Unit) i=>Zmj k e.o e.v (e.q.map mc) (e.s.map mc) (e.q.map mc) (e.q.length:Int) i) e.q.length (fun _ _=>True) (by omega) (fun k i _ hi _ next=>?_) () trivial
 refine Ze (ZiD ..) (Zb (fun hh=>?_) fun _=>hlast)
 simp only [CQ] at hh
 have hi':i < e.q.length:=by omega
 refine Ze (Jo hi' _) (Za (s69 _ (h.qm _ (Xy hi'))) (Zb (fun h=>by cases h) fun _=>?_))
 rw [Ji hi (by omega)]
 exact next hi' () trivial
theorem ZtO:∃ q,J6=q+4:=by
 have:(2:Nat)^64≤J6:=by decide
 exact ⟨J6-4,by omega⟩
theorem s70 (n:Nat) (h:n≤1000):g70 E0 (n:Int)=Xa []:=by
 rw [Zr7]
 unfold ZqB
 rw [JX rfl,JX (UL n),JX (by rw [XQ];unfold Jc;omega)]
theorem s44 (a b:List Ms) (ha:a.length≤400) (hb:b.length≤400):g44 ((E0++[[AV.slice Xc 4 (a.map mc)]])++[[AV.slice Xc 4 (b.map mc)]])=Xa ((a++b).map mc):=by
 refine ZA ?_
 obtain ⟨L,hL⟩:∃ L:LL,L=((E0++[[AV.slice Xc 4 (a.map mc)]])++[[AV.slice Xc 4 (b.map mc)]]):=⟨_,rfl⟩
 rw [← hL]
 have hlen:L.length=2:=by rw [hL];rfl
 have e0:∀ {γ:Type} (k:LL→Option γ),ZB L 0 [.slice 4] k=k (a.map mc):=fun k=>JS (sh:=[.slice 4]) k (by decide) (cs:=[AV.slice Xc 4 (a.map mc)]) (by rw [hL];rfl) rfl
 have e1:∀ {γ:Type} (k:LL→Option γ),ZB L (0+1:Nat) [.slice 4] k=k (b.map mc):=fun k=>JS (sh:=[.slice 4]) k (by decide) (cs:=[AV.slice Xc 4 (b.map mc)]) (by rw [hL];rfl) rfl
 obtain ⟨f,hf⟩:=ZtO
 have i1:iop .add .i64 0 1=((0+1:Nat):Int):=by decide
 have i2:iop .add .i64 ((0+1:Nat):Int) 1=2:=by decide
 have hmap:a.map mc++b.map mc=(a++b).map mc:=by rw [XJ]
 have hno:∀ (x y:Nat),x≤1000→y≤1000→iop .add .i64 (x:Int) (y:Int)=((x+y:Nat):Int):=fun x y hx hy=>by
  rw [Zni (by omega) (by omega)];omega
 rw [ZsG,hlen,hf]
 refine Ze (Zfb ..) (Zb (fun _=>?_) fun h=>(h (by decide)).elim)
 refine Ze (e0 _) ?_
 rw [Xi,show ((0:Int))=((0:Nat):Int) from rfl,hno 0 a.length (by omega) (by omega)]
 refine Zb (fun h=>?_) fun _=>?_
 ·simp only [CQ] at h;omega
 rw [show iop .add .i64 ((0:Nat):Int) 1=((0+1:Nat):Int) from i1]
 refine Ze (Zfb ..) (Zb (fun _=>?_) fun h=>(h (by decide)).elim)
 refine Ze (e1 _) ?_
 rw [Xi,hno (0+a.length) b.length (by omega) (by omega)]
 refine Zb (fun h=>?_) fun _=>?_
 ·simp only [CQ] at h;omega
 rw [i2]
 refine Ze (Zfb ..) (Zb (fun h=>by cases h) fun _=>?_)
 refine Za (s70 _ (by omega)) ?_
 rw [hlen,hf]
 refine Ze (ZfF ..) (Zb (fun _=>?_) fun h=>(h (by decide)).elim)
 refine Ze (e0 _) (Zc (ZD (by simp;omega) (by decide)) ?_)
 rw [i1]
 refine Ze (ZfF ..) (Zb (fun _=>?_) fun h=>(h (by decide)).elim)
 refine Ze (e1 _) (Zc (ZD (by simp;omega) (by decide)) ?_)
 rw [i2]
 refine Ze (ZfF ..) (Zb (fun h=>by cases h) fun _=>Zd ?_)
 rw [X4,hmap]
def kv (k:Int):List AV:=[I k,B Xb]
def VY (K:List Int):LL:=[[.slice Xc 2 (K.map kv)]]
theorem Znv {K:List Int} {t:Int} (h:t∉K):ZbJ (VY K) t [AV.val (.bool Xc)] = [[AV.val (.bool Xc),AV.val (.bool Xc)]]:=by
 have hf:(JY (VY K)).find? (fun r=>Z1 r == Xa t)=none:=by
  rw [Tv]
  intro r hr
  obtain ⟨k,hk,rfl⟩:=Xm.1 (show r∈K.map kv from hr)
  show ¬ ((Xa k == Xa t)=Xb)
  intro e
  have:k=t:=by simpa using e
  exact h (this ▸ hk)
 unfold ZbJ
 rw [hf]
 rfl
theorem Zm2 {K:List Int} {t:Int} (h:t∉K):ZlC (VY K) t [AV.val (.bool Xb)]=VY (K++[t]):=by
 have ha:((K.map kv).any fun r=>Z1 r == Xa t)=Xc:=by
  rw [List.any_eq_false]
  intro r hr
  obtain ⟨k,hk,rfl⟩:=Xm.1 hr
  show ¬ ((Xa k == Xa t)=Xb)
  intro e
  have:k=t:=by simpa using e
  exact h (this ▸ hk)
 have hr:JY (VY K)=K.map kv:=rfl
 unfold ZlC KZ
 rw [hr,ha,if_neg Bool.false_ne_true]
 unfold VY
 rw [XJ]
 rfl
def tk (l:List Ms):List Int:=(l.map Ms.t).filter fun t=>decide (t≠0)
def tkE (es:List Ep):List Int:=es.flatMap fun e=>tk (e.q++e.s)
theorem YQ {l:List Ms} {j:Nat} (h:j < l.length):tk (l.take (j+1))=if l[j].t=0 then tk (l.take j) else tk (l.take j)++[l[j].t]:=by
 unfold tk
 rw [Um h,XJ,U0]
 by_cases h0:l[j].t=0
 ·rw [if_pos h0];simp [h0]
 ·rw [if_neg h0];simp [h0]
theorem ZsB {l:List Ms} (j:Nat):∃ r,tk l=tk (l.take j)++r:=by
 refine ⟨tk (l.drop j),?_⟩
 unfold tk
 rw [← U0,← XJ,UI]
structure Vld (n:Int) (es:List Ep):Prop where
 n0:0≤n
 n1:n≤1099511627776
 len:es.length≤32
 ok:∀ e∈es,Zlk e
 ord:es.Pairwise fun a b=>a.o < b.o
 nd:(tkE es).Nodup
 le:∀ t∈tkE es,t≤n
theorem inner {P:Bool→Prop} (rec0:List V→Option Bool) (n:Int) (es:LL) (K:List Int) (l:List Ms) (x4 x5:Int) (hl:l.length≤800) (hnd:(K++tk l).Nodup) (hle:∀ t∈tk l,t≤n)
  (h:Ret P (rec0 [.i n,.l es,.l (VY (K++tk l)),.l es,.i x4,.i (iop .add .i64 x5 1)])) :
  Ret P (ZdS rec0 J6 n es (VY K) es x4 x5 (l.map mc) (Xh (l.map mc):Int) 0):=by
 rw [Xi]
 refine Zu (F:=fun k (s:LL) i=>ZdS rec0 k n es s es x4 x5 (l.map mc) (l.length:Int) i) l.length (fun i s=>s=VY (K++tk (l.take i))) (by omega) (fun k i s hi hs next=>?_) (VY K) (by simp [tk])
 subst hs
 refine Ze (Zi7 ..) (Zb (fun hh=>?_) fun hh=>?_)
 ·simp only [CQ] at hh
  have hi':i < l.length:=by omega
  have r1:(0:Int)≤(i:Int):=UL i
  have r2:(i:Int) < ((l.map mc).length:Int):=by rw [Xi];omega
  refine Zc r1 (Zc r2 (Ze (Jo hi' _) (Zb (fun h0=>?_) fun h0=>?_)))
  ·simp only [CQ,mv] at h0
   rw [Ji hi (by omega)]
   exact next hi' _ (by rw [YQ hi',if_pos h0])
  ·simp only [CQ,mv] at h0
   have hnot:l[i].t∉K++tk (l.take i):=by
    intro hmem
    obtain ⟨r,hr⟩:=ZsB (l:=l) (i+1)
    rw [hr,YQ hi',if_neg h0] at hnd
    rw [← Xw,← Xw,TG] at hnd
    have:=(TG.1 hnd.1).2.2 _ hmem _ (XH.2 rfl)
    exact this rfl
   have hmem:l[i].t∈tk l:=by
    unfold tk
    rw [U4]
    exact ⟨Xm.2 ⟨l[i],Xy hi',rfl⟩,by simp [h0]⟩
   refine Zc rfl ?_
   rw [show (mv l[i]).1=l[i].t from rfl,Znv hnot]
   refine Ze (JS (sh:=[.bool,.bool]) (r:=(Xc,Xc)) _ (by decide) rfl rfl) (Zb (fun h=>by cases h) fun _=>Zb (fun h1=>?_) fun _=>Zc rfl ?_)
   ·simp only [CQ] at h1
    have:=hle _ hmem
    omega
   ·rw [Zm2 hnot,Ji hi (by omega)]
    exact next hi' _ (by rw [YQ hi',if_neg h0,Xw])
 ·simp only [CQ] at hh
  have:i=l.length:=by omega
  subst this
  rw [XW]
  exact h
theorem ZeZ {es:List Ep} {j:Nat} (h:j < es.length):tkE (es.take (j+1))=tkE (es.take j)++tk (es[j].q++es[j].s):=by
 unfold tkE
 rw [Um h,U8]
 simp
theorem Zqw {es:List Ep} (j:Nat):∃ r,tkE es=tkE (es.take j)++r:=by
 refine ⟨tkE (es.drop j),?_⟩
 unfold tkE
 rw [← U8,UI]
theorem s22 (n:Int) (es:List Ep) (h:Vld n es):g22 n (es.map ec)=Xa Xb:=by
 refine ZA ?_
 have hlen:=h.len
 have hn0:=h.n0
 have hn1:=h.n1
 rw [ZpG]
 refine Zb (fun hh=>?_) fun _=>Zb (fun hh=>?_) fun _=>Zb (fun hh=>?_) fun _=>?_
 ·simp only [CQ] at hh;omega
 ·simp only [CQ] at hh;omega
 ·simp only [CQ,Xi] at hh;omega
 rw [Xi]
 refine Zu (F:=fun k (s:LL) i=>Zn4 k n (es.map ec) s (es.map ec) (es.length:Int) i) es.length (fun i s=>s=VY (tkE (es.take i))) (by omega) (fun k i s hi hs next=>?_) _ rfl
 subst hs
 refine Ze (ZiY ..) (Zb (fun hh=>?_) fun _=>Zd rfl)
 simp only [CQ] at hh
 have hi':i < es.length:=by omega
 have he:=h.ok _ (Xy hi')
 have hin:Ret (fun r=>r=Xb) ((g44 ((E0++[[AV.slice Xc 4 (ev es[i]).2.2.1]])++[[AV.slice Xc 4 (ev es[i]).2.2.2]])).bind fun (r17:LL)=>
   ZdS (F22.lp [1,1,1,0] 0 r0 k) J6 n (es.map ec) (VY (tkE (es.take i))) (es.map ec) (es.length:Int) (i:Int) r17 (Xh r17:Int) 0):=by
  refine Za (s44 es[i].q es[i].s (by have:=he.ql;omega) he.sl) ?_
  obtain ⟨r,hr⟩:=Zqw (es:=es) (i+1)
  rw [ZeZ hi'] at hr
  have hnd:=h.nd
  have hle:=h.le
  rw [hr] at hnd hle
  refine inner (F22.lp [1,1,1,0] 0 r0 k) n (es.map ec) _ (es[i].q++es[i].s) _ _ (by have:=he.ql;have:=he.sl;simp;omega) (TG.1 hnd).1 (fun t ht=>hle t (by simp [ht])) ?_
  rw [Ji hi (by omega),← ZeZ hi']
  exact next hi' _ rfl
 refine Ze (ZX hi' _) (Za (s37 _ he.o0 he.o1) (Zb (fun h=>by cases h) fun _=>Za (s38 _ he.v0 he.v1) (Zb (fun h=>by cases h) fun _=>Za (s52 _ he) (Zb (fun h=>by cases h) fun _=>Zb (fun hp=>?_) fun _=>?_))))
 ·simp only [CQ] at hp
  obtain ⟨j,rfl⟩:∃ j,i=j+1:=⟨i-1,by omega⟩
  have hs:iop .sub .i64 ((j+1:Nat):Int) 1=(j:Int):=by rw [ZhN (by omega) (by omega)];omega
  rw [hs]
  have hj:j < es.length:=by omega
  refine Ze (ZX hj _) (Zb (fun hg=>?_) fun _=>hin)
  simp only [CQ,ev] at hg
  have:=UH.1 h.ord j (j+1) hj hi' (by omega)
  omega
 ·exact hin
def iv (p:Ep×Nat):List AV:=[I p.1.o,I (p.2:Int)]
def ZnC (es:List Ep):LL:=[[.slice Xc 2 (es.zipIdx.map iv)]]
theorem ZrF {es:List Ep} {e:Ep} (h:∀ x∈es,x.o≠e.o):ZlC (ZnC es) e.o [AV.val (.int .i64 (es.length:Int))]=ZnC (es++[e]):=by
 have ha:((es.zipIdx.map iv).any fun r=>Z1 r == Xa e.o)=Xc:=by
  rw [List.any_eq_false]
  intro r hr
  obtain ⟨p,hp,rfl⟩:=Xm.1 hr
  show ¬ ((Xa p.1.o == Xa e.o)=Xb)
  intro q
  have q':p.1.o=e.o:=by simpa using q
  exact h _ (List.fst_mem_of_mem_zipIdx hp) q'
 have hr:JY (ZnC es)=es.zipIdx.map iv:=rfl
 unfold ZlC KZ
 rw [hr,ha,if_neg Bool.false_ne_true]
 unfold ZnC
 rw [List.zipIdx_append,XJ,Nat.zero_add]
 rfl
theorem s39 (n:Int) (es:List Ep) (hl:es.length < 900) (ho:es.Pairwise fun a b=>a.o < b.o):g39 n (es.map ec)=Xa (ZnC es):=by
 refine ZA ?_
 rw [ZrV,Xi]
 refine Zu (F:=fun k (s:LL) i=>ZoF k s (es.map ec) (es.length:Int) i) es.length (fun i s=>s=ZnC (es.take i)) (by omega) (fun k i s hi hs next=>?_) _ rfl
 subst hs
 refine Ze (ZoW ..) (Zb (fun hh=>?_) fun hh=>?_)
 ·simp only [CQ] at hh
  have hi':i < es.length:=by omega
  refine Ze (ZX hi' _) (Zc rfl ?_)
  have hp:=ZrF (es:=es.take i) (e:=es[i]) (fun x hx=>by
   obtain ⟨j,hj,rfl⟩:=Uz hx
   rw [Xt] at hj
   rw [To]
   have:=UH.1 ho j i (by omega) hi' (by omega)
   omega)
  rw [Xt,Nat.min_eq_left hi] at hp
  rw [show (ev es[i]).1=es[i].o from rfl,hp,Ji hi (by omega),← Um hi']
  exact next hi' _ rfl
 ·simp only [CQ] at hh
  have:i=es.length:=by omega
  subst this
  rw [XW]
  exact Zd rfl
theorem Zaw {es:List Ep} {o:Int} (h:∀ e∈es,e.o≠o):ZbJ (ZnC es) o [AV.val (.int .i64 0)] = [[AV.val (.int .i64 0),AV.val (.bool Xc)]]:=by
 have hf:(JY (ZnC es)).find? (fun r=>Z1 r == Xa o)=none:=by
  rw [Tv]
  intro r hr
  obtain ⟨p,hp,rfl⟩:=Xm.1 (show r∈es.zipIdx.map iv from hr)
  show ¬ ((Xa p.1.o == Xa o)=Xb)
  intro e
  have e':p.1.o=o:=by simpa using e
  exact h _ (List.fst_mem_of_mem_zipIdx hp) e'
 unfold ZbJ
 rw [hf]
 rfl
theorem WB {es:List Ep} {k:Nat} (hk:k < es.length) (ho:es.Pairwise fun a b=>a.o < b.o):ZbJ (ZnC es) es[k].o [AV.val (.int .i64 0)] = [[AV.val (.int .i64 (k:Int)),AV.val (.bool Xb)]]:=by
 have hf:(JY (ZnC es)).find? (fun r=>Z1 r == Xa es[k].o)=Xa (iv (es[k],k)):=by
  show (es.zipIdx.map iv).find? _=_
  rw [List.find?_eq_some_iff_getElem]
  refine ⟨?_,k,by simpa using hk,by simp,fun j hj=>?_⟩
  ·show (Xa es[k].o == Xa es[k].o)=Xb
   simp
  ·have hj':j < es.length:=by omega
   have:((es.zipIdx.map iv)[j]'(by simpa using hj'))=iv (es[j],j):=by simp
   rw [this]
   have:=UH.1 ho j k hj' hk hj
   show (!(Xa es[j].o == Xa es[k].o))=Xb
   simp
   omega
 unfold ZbJ
 rw [hf]
 rfl
theorem Yp {γ:Type} {L:LL} {z:Int} {b:Bool} (h:L = [[AV.val (.int .i64 z),AV.val (.bool b)]]) (k:Int×Bool→Option γ):ZB L 0 [.int .i64,.bool] k=k (z,b):=by
 subst h
 exact JS (sh:=[.int .i64,.bool]) k (by decide) (cs:=[AV.val (.int .i64 z),AV.val (.bool b)]) rfl rfl
theorem Vld.few {n:Int} {es:List Ep} (h:Vld n es):∀ e∈es,e.q.length < 1000∧e.s.length < 1000∧(∀ m∈e.q,m.w.length < 1000)∧∀ m∈e.s,m.w.length < 1000:=fun e he=>by
 have:=h.ok e he
 refine ⟨by have:=this.ql;omega,by have:=this.sl;omega,fun m hm=>?_,fun m hm=>?_⟩
 ·have:=(this.qm m hm).2.2.2.1;omega
 ·have:=(this.sm m hm).1.2.2.2.1;omega
theorem V3 (es:List Ep) (k:Nat) (e:Ep) {R:List AV} (h:R.map Zbi=ec e):Yl ((es.map en).set k R)=(es.set k e).map ec:=by
 unfold Yl
 rw [Uv,h,Uv]
 congr 1
 exact Zcz es
theorem ZhD {es:List Ep} {k:Nat} (hk:k < es.length):(es.map en)[k]? = Xa (en es[k]):=by
 rw [Xl,Xq hk];rfl
theorem YO {L:LL} {k:Nat} {R:List AV} (hk:k < L.length):(L.set k R)[k]? = Xa R:=by
 rw [Uy];simp [hk]
theorem KP {L:LL} {k o s:Nat} {e:TypeId} {r:List AV} {ys:LL} (h:L[k]? = Xa r) (h2:r[o]? = Xa (.nest s Xb e ys)):qop (.nst o s e) L (k:Int)=Xb:=by
 simp [qop,h,h2]
theorem ZiO {P:Int×LL×Int→Prop} (N:Int) (es:List Ep) (k:Nat) (hk:k < es.length) (m:Ms) (hq:es[k].q.length≤100) (h:P (N,(es.set k { es[k] with q:=es[k].q++[m] }).map ec,0)) :
  Ret P (Zm ((0:Int)≤(k:Int))<|Zm ((k:Int) < (Xh (es.map en):Int))<|Zm ((0:Int)≤(k:Int))<|Zm (qop (.nst 2 4 41) (es.map en) (k:Int)=Xb)<|
   Zm (ZV (Yi (es.map en) (Xg (k:Int)) 2) (E0++[mc m]) 48)<|Zm ((0:Int)≤(k:Int))<|
   Zm ((k:Int) < (Xh (Jj (es.map en) (Xg (k:Int)) 2 (AV.nest 4 Xc 41 E0)):Int))<|Zm ((0:Int)≤(k:Int))<|
   Zm ((k:Int) < (Xh (Jj (es.map en) (Xg (k:Int)) 2 (AV.nest 4 Xc 41 E0)):Int))<|
   Xa (N,Yl (Jj (Jj (es.map en) (Xg (k:Int)) 2 (AV.nest 4 Xc 41 E0)) (Xg (k:Int)) 2 (AV.nest 4 Xb 41 ((Yi (es.map en) (Xg (k:Int)) 2)++(E0++[mc m])))),0)):=by
 have hat:=ZhD hk
 have hlen:k < (es.map en).length:=by simpa using hk
 have hg:Yi (es.map en) k 2=es[k].q.map mc:=by
  unfold Yi
  rw [hat]
  rfl
 have hp1:Jj (es.map en) k 2 (AV.nest 4 Xc 41 E0)=(es.map en).set k [I es[k].o,I es[k].v,.nest 4 Xc 41 [],.nest 4 Xb 41 (es[k].s.map mc)]:=Jt hat
 have hp2:Jj ((es.map en).set k [I es[k].o,I es[k].v,.nest 4 Xc 41 [],.nest 4 Xb 41 (es[k].s.map mc)]) k 2 (AV.nest 4 Xb 41 ((es[k].q++[m]).map mc)) =
   (es.map en).set k (en { es[k] with q:=es[k].q++[m] }):=by
  have:Jj ((es.map en).set k [I es[k].o,I es[k].v,.nest 4 Xc 41 [],.nest 4 Xb 41 (es[k].s.map mc)]) k 2 (AV.nest 4 Xb 41 ((es[k].q++[m]).map mc))=((es.map en).set k _).set k (en { es[k] with q:=es[k].q++[m] }):=Jt (YO hlen)
  rw [this,UU]
 have r1:(0:Int)≤(k:Int):=UL k
 have r2:(k:Int) < (Xh (es.map en):Int):=by omega
 have hm:es[k].q.map mc++(E0++[mc m])=(es[k].q++[m]).map mc:=by simp
 rw [XQ,hg,hm,hp1,hp2,Ud]
 refine Zc r1 (Zc r2 (Zc r1 (Zc ?_ (Zc (ZD (by simp;omega) (by decide)) (Zc r1 (Zc r2 (Zc r1 (Zc r2 ?_))))))))
 ·exact KP hat rfl
 ·rw [V3 es k { es[k] with q:=es[k].q++[m] } rfl]
  exact Zd h
theorem s13 (n:Int) (es:List Ep) (h:Vld n es) (k:Nat) (hk:k < es.length) (c:Int) (w:LL) (s:Int) (hm:KV ⟨0,c,w,s⟩) (hq:es[k].q.length < 8) :
  g13 n (es.map ec) es[k].o c w s=Xa (n,(es.set k { es[k] with q:=es[k].q++[⟨0,c,w,s⟩] }).map ec,0):=by
 refine ZA ?_
 rw [Zgr]
 refine Yc (Q:=fun r=>r=(n,(es.set k { es[k] with q:=es[k].q++[⟨0,c,w,s⟩] }).map ec,0)) ?_ fun r hr=>Zd (by rw [hr])
 rw [Zaz]
 have hlen:=h.len
 refine Za (s22 n es h) (Zb (fun h=>by cases h) fun _=>Za (s69 ⟨0,c,w,s⟩ hm) (Zb (fun h=>by cases h) fun _=>Za (s39 n es (by omega) h.ord) (Zc rfl ?_)))
 refine Ze (Yp (WB hk h.ord) _) (Zb (fun h=>by cases h) fun _=>Ze (ZX hk _) (Zb (fun h8=>?_) fun _=>Zb (fun h=>by cases h) fun _=>Zb (fun h=>by cases h) fun _=>?_))
 ·simp only [CQ,ev,Xi] at h8;omega
 refine Za (s40 n es (by omega) h.few) (Zb (fun h=>by cases h) fun _=>Za (s43 w (by have:=hm.2.2.2.1;simp only at this;omega)) ?_)
 exact ZiO n es k hk ⟨0,c,w,s⟩ (by omega) rfl
theorem s12 (n:Int) (es:List Ep) (h:Vld n es) (k:Nat) (hk:k < es.length) (c:Int) (w:LL) (s:Int) (hm:KV ⟨0,c,w,s⟩) (hq:es[k].q.length < 8) (hv:es[k].v≠c) (hn:n < 1099511627776) :
  g12 n (es.map ec) es[k].o c w s=Xa (n+1,(es.set k { es[k] with q:=es[k].q++[⟨n+1,c,w,s⟩] }).map ec,n+1,0):=by
 refine ZA ?_
 have hn0:=h.n0
 have hadd:iop .add .i64 n 1=n+1:=Zni (by omega) (by omega)
 rw [ZcY]
 refine Yc (Q:=fun r=>r=(n+1,(es.set k { es[k] with q:=es[k].q++[⟨n+1,c,w,s⟩] }).map ec,0)) ?_ fun r hr=>Zd (by rw [hr])
 rw [Zaz]
 have hlen:=h.len
 refine Za (s22 n es h) (Zb (fun h=>by cases h) fun _=>Za (s69 ⟨0,c,w,s⟩ hm) (Zb (fun h=>by cases h) fun _=>Za (s39 n es (by omega) h.ord) (Zc rfl ?_)))
 refine Ze (Yp (WB hk h.ord) _) (Zb (fun h=>by cases h) fun _=>Ze (ZX hk _) (Zb (fun h8=>?_) fun _=>Zb (fun _=>?_) fun h=>(h rfl).elim))
 ·simp only [CQ,ev,Xi] at h8;omega
 refine Ze (ZX hk _) (Zb (fun hb=>?_) fun _=>Zb (fun _=>Zb (fun hb=>?_) fun _=>?_) fun h=>(h rfl).elim)
 ·simp only [CQ,ev] at hb;exact (hv hb).elim
 ·simp only [CQ] at hb;omega
 refine Za (s40 n es (by omega) h.few) (Zb (fun _=>Za (s43 w (by have:=hm.2.2.2.1;simp only at this;omega)) ?_) fun h=>(h rfl).elim)
 rw [show iop .add .i64 (n,es.map en).1 1=n+1 from hadd]
 exact ZiO (n+1) es k hk ⟨n+1,c,w,s⟩ (by omega) rfl
theorem Zt8 (n:Int) (es:List Ep) (h:Vld n es) (k:Nat) (hk:k < es.length) (c:Int) (w:LL) (s:Int) (b:Bool) (hm:KV ⟨0,c,w,s⟩) (hq:es[k].q.length=8) :
  g42 n (es.map ec) es[k].o 0 c w s b=Xa (0,E0,65):=by
 refine ZA ?_
 rw [Zaz]
 have hlen:=h.len
 refine Za (s22 n es h) (Zb (fun h=>by cases h) fun _=>Za (s69 ⟨0,c,w,s⟩ hm) (Zb (fun h=>by cases h) fun _=>Za (s39 n es (by omega) h.ord) (Zc rfl ?_)))
 refine Ze (Yp (WB hk h.ord) _) (Zb (fun h=>by cases h) fun _=>Ze (ZX hk _) (Zb (fun _=>Zd rfl) fun h8=>?_))
 simp only [CQ,ev,Xi] at h8;omega
theorem ZuC (n:Int) (es:List Ep) (h:Vld n es) (k:Nat) (hk:k < es.length) (c:Int) (w:LL) (s:Int) (hm:KV ⟨0,c,w,s⟩) (hq:es[k].q.length=8):g13 n (es.map ec) es[k].o c w s=Xa (0,E0,65):=by
 rw [Zgr,Zt8 n es h k hk c w s Xc hm hq];rfl
theorem Zvb (n:Int) (es:List Ep) (h:Vld n es) (k:Nat) (hk:k < es.length) (c:Int) (w:LL) (s:Int) (hm:KV ⟨0,c,w,s⟩) (hq:es[k].q.length=8):g12 n (es.map ec) es[k].o c w s=Xa (0,E0,0,65):=by
 rw [ZcY,Zt8 n es h k hk c w s Xb hm hq];rfl
def Zbd (e:Ep) (m:Ms) (q:List Ms):Ep:=if 0 < m.t then { e with q:=q,s:=e.s++[m] } else { e with q:=q }
theorem s14 (n:Int) (es:List Ep) (h:Vld n es) (k:Nat) (hk:k < es.length) (m:Ms) (q:List Ms) (hq:es[k].q=m::q) :
  g14 n (es.map ec) es[k].o es[k].v=Xa (n,(es.set k (Zbd es[k] m q)).map ec,m.t,m.c,m.w,m.s,0):=by
 refine ZA ?_
 have hlen:=h.len
 have hat:=ZhD hk
 have hlk:k < (es.map en).length:=by simpa using hk
 have hok:=h.ok _ (Xy hk)
 have hmok:KV m:=hok.qm m (by rw [hq];simp)
 have r1:(0:Int)≤(k:Int):=UL k
 have r2:(k:Int) < (Xh (es.map en):Int):=by omega
 rw [Zhf]
 refine Za (s22 n es h) (Zb (fun h=>by cases h) fun _=>Za (s39 n es (by omega) h.ord) (Zc rfl ?_))
 refine Ze (Yp (WB hk h.ord) _) (Zb (fun h=>by cases h) fun _=>Ze (ZX hk _) (Zb (fun h8=>?_) fun _=>Ze (ZX hk _) (Zb (fun h8=>?_) fun _=>?_)))
 ·simp only [CQ,ev] at h8;exact (h8 rfl).elim
 ·simp only [CQ,ev,Xi,hq,XN] at h8;omega
 refine Za (s40 n es (by omega) h.few) ?_
 obtain ⟨R1,hR1⟩:∃ R:List AV,R = [I es[k].o,I es[k].v,.slice Xc 4 (es[k].q.map mc),.nest 4 Xb 41 (es[k].s.map mc)]:=⟨_,rfl⟩
 obtain ⟨R2,hR2⟩:∃ R:List AV,R = [I es[k].o,I es[k].v,.slice Xc 4 (q.map mc),.nest 4 Xb 41 (es[k].s.map mc)]:=⟨_,rfl⟩
 obtain ⟨R3,hR3⟩:∃ R:List AV,R = [I es[k].o,I es[k].v,.slice Xc 4 (q.map mc),.nest 4 Xc 41 []]:=⟨_,rfl⟩
 have hf1:JZ (es.map en) k 2 1=(es.map en).set k R1:=by rw [hR1];exact Jt hat
 have hf2:JZ ((es.map en).set k R1) k 2 1=(es.map en).set k R1:=ZbL (YO hlk) (by rw [hR1];rfl)
 have hel:∀ {γ:Type} (f:LL→Option γ),ZB (Zdx ((es.map en).set k R1) 2 1) (k:Int) [.slice 4] f=f (es[k].q.map mc):=fun f=>JS (sh:=[.slice 4]) f r1 (cs:=[.slice Xc 4 (es[k].q.map mc)]) (by
  rw [XQ]
  unfold Zdx
  rw [Xl,YO hlk,hR1]
  rfl) rfl
 have hse:Zq ((es.map en).set k R1) k 2 [AV.slice Xc 4 (q.map mc)]=(es.map en).set k R2:=by
  have hb:((es.map en).set k R1)[k]? = Xa R1:=YO hlk
  have:Zq ((es.map en).set k R1) k 2 [AV.slice Xc 4 (q.map mc)]=((es.map en).set k R1).set k (setCells R1 2 [AV.slice Xc 4 (q.map mc)]):=Jt hb
  rw [this,UU,hR1,hR2]
  rfl
 have hdrop:Uh (Xg 1) (es[k].q.map mc)=q.map mc:=by rw [hq];rfl
 have hqm:es[k].q.map mc=mc m::q.map mc:=by rw [hq];rfl
 have hqop:qop (.nst 3 4 41) ((es.map en).set k R2) (k:Int)=Xb:=KP (YO hlk) (by rw [hR2];rfl)
 have hg3:Yi ((es.map en).set k R2) k 3=es[k].s.map mc:=by
  unfold Yi
  rw [YO hlk,hR2]
  rfl
 have hp3:Jj ((es.map en).set k R2) k 3 (AV.nest 4 Xc 41 E0)=(es.map en).set k R3:=by
  have:Jj ((es.map en).set k R2) k 3 (AV.nest 4 Xc 41 E0)=((es.map en).set k R2).set k (setCells R2 3 [AV.nest 4 Xc 41 E0]):=Jt (YO hlk)
  rw [this,UU,hR2,hR3]
  rfl
 have hp4:Jj ((es.map en).set k R3) k 3 (AV.nest 4 Xb 41 ((es[k].s++[m]).map mc))=(es.map en).set k [I es[k].o,I es[k].v,.slice Xc 4 (q.map mc),.nest 4 Xb 41 ((es[k].s++[m]).map mc)]:=by
  have:Jj ((es.map en).set k R3) k 3 (AV.nest 4 Xb 41 ((es[k].s++[m]).map mc))=((es.map en).set k R3).set k (setCells R3 3 [AV.nest 4 Xb 41 ((es[k].s++[m]).map mc)]):=Jt (YO hlk)
  rw [this,UU,hR3]
  rfl
 have hsm:es[k].s.map mc++(E0++[mc m])=(es[k].s++[m]).map mc:=by simp
 have r3:∀ R,(k:Int) < (((es.map en).set k R).length:Int):=fun R=>by rw [Ud];omega
 rw [XQ,hf1,hf2]
 refine Zc r1 (Zc r2 (Ze (hel _) (Ze (JS (sh:=[.int .i64,.int .i64,.slice 1,.int .i64]) (r:=mv m) (cs:=mc m) _ (by decide) (by rw [hqm];rfl) rfl) (Ze (hel _) (Zc (by decide) (Zc (by rw [hqm,XN];omega) (Zc r1 (Zc (r3 _) ?_))))))))
 rw [hdrop,hse]
 refine Zb (fun ht=>?_) fun ht=>?_
 ·simp only [CQ,mv] at ht
  refine Zc r1 (Zc hqop (Zc (ZD ?_ (by decide)) (Zc r1 (Zc ?_ (Za (s43 m.w (by have:=hmok.2.2.2.1;omega)) (Zd ?_))))))
  ·rw [hg3];have:=hok.sl;simp;omega
  ·rw [hp3];exact r3 _
  ·rw [hg3,hp3,show ([AV.val (.int .i64 (mv m).1),AV.val (.int .i64 (mv m).2.1),AV.slice Xc 1 (mv m).2.2.1,AV.val (.int .i64 (mv m).2.2.2)] : List AV)=mc m from rfl,hsm,hp4,V3 es k (Zbd es[k] m q) (by unfold Zbd;rw [if_pos ht];rfl)]
   rfl
 ·simp only [CQ,mv] at ht
  refine Zd ?_
  rw [V3 es k (Zbd es[k] m q) (by unfold Zbd;rw [if_neg (by omega),hR2];rfl)]
  rfl
theorem Zbq (a b:List Ms):tk (a++b)=tk a++tk b:=by
 unfold tk;rw [XJ,U0]
theorem Wb {α:Type} {l:List α} {k:Nat} (h:k < l.length):l=l.take k++l[k]::l.drop (k+1):=by
 rw [← TF h,UI]
theorem Zgs {α:Type} {l:List α} {k:Nat} (h:k < l.length) (a:α):l.set k a=l.take k++a::l.drop (k+1):=List.set_eq_take_append_cons_drop ▸ by rw [if_pos h]
theorem ZrE {es:List Ep} {k:Nat} (hk:k < es.length) (e:Ep) {r:List Int} (hp:(tk (e.q++e.s)).Perm (tk (es[k].q++es[k].s)++r)):(tkE (es.set k e)).Perm (tkE es++r):=by
 rw [Zgs hk]
 have h2:tkE es=tkE (es.take k)++(tk (es[k].q++es[k].s)++tkE (es.drop (k+1))):=by
  refine (congrArg tkE (Wb hk)).trans ?_
  unfold tkE
  rw [U8,Tf]
 rw [h2]
 have h3:tkE (es.take k++e::es.drop (k+1))=tkE (es.take k)++(tk (e.q++e.s)++tkE (es.drop (k+1))):=by simp [tkE]
 rw [h3,Xw,Xw]
 refine List.Perm.append_left _ ?_
 refine (hp.append_right _).trans ?_
 rw [Xw]
 exact List.Perm.append_left _ TH
theorem ZeT {n n':Int} {es:List Ep} (h:Vld n es) {k:Nat} (hk:k < es.length) {e:Ep} {r:List Int} (he:Zlk e) (ho:e.o=es[k].o) (h1:n≤n') (h2:n'≤1099511627776)
  (hp:(tk (e.q++e.s)).Perm (tk (es[k].q++es[k].s)++r)) (hr:∀ t∈r,n < t∧t≤n') (hnd:r.Nodup):Vld n' (es.set k e):=by
 have hn0:=h.n0
 have hperm:=ZrE hk e hp
 refine ⟨by omega,h2,by rw [Ud];exact h.len,fun x hx=>?_,?_,?_,fun t ht=>?_⟩
 ·rcases Ue hx with hx | rfl
  ·exact h.ok x hx
  ·exact he
 ·have hm:(es.set k e).map Ep.o=es.map Ep.o:=by
   rw [Uv,ho]
   apply UD
   intro j
   rw [Uy]
   by_cases hj:k=j
   ·subst hj;simp [hk]
   ·simp [hj]
  have h3:=TI.2 h.ord
  rw [← hm] at h3
  exact TI.1 h3
 ·refine (List.Perm.nodup_iff hperm).2 (TG.2 ⟨h.nd,hnd,fun a ha b hb hab=>?_⟩)
  have:=h.le a ha
  have:=(hr b hb).1
  omega
 ·rcases Xs.1 (hperm.mem_iff.1 ht) with ht | ht
  ·have:=h.le t ht;omega
  ·exact (hr t ht).2
theorem ZoQ {n:Int} {es:List Ep} (h:Vld n es) {k:Nat} (hk:k < es.length) {m:Ms} (hm:KV m) (h0:m.t=0) (hq:es[k].q.length < 8):Vld n (es.set k { es[k] with q:=es[k].q++[m] }):=by
 have hok:=h.ok _ (Xy hk)
 refine ZeT (r:=[]) h hk ⟨hok.o0,hok.o1,hok.v0,hok.v1,by simp;omega,hok.sl,fun x hx=>?_,hok.sm⟩ rfl (Int.le_refl _) h.n1 ?_ (fun t ht=>by cases ht) List.nodup_nil
 ·rcases Xs.1 hx with hx | hx
  ·exact hok.qm x hx
  ·rw [XH] at hx;subst hx;exact hm
 ·have:tk [m] = []:=by simp [tk,h0]
  simp only [Zbq,this,Us]
  exact List.Perm.refl _
theorem Zn1 {n:Int} {es:List Ep} (h:Vld n es) {k:Nat} (hk:k < es.length) {m:Ms} (hm:KV m) (h0:m.t=n+1) (hn:n < 1099511627776) (hq:es[k].q.length < 8):Vld (n+1) (es.set k { es[k] with q:=es[k].q++[m] }):=by
 have hok:=h.ok _ (Xy hk)
 have hn0:=h.n0
 refine ZeT (r:=[n+1]) h hk ⟨hok.o0,hok.o1,hok.v0,hok.v1,by simp;omega,hok.sl,fun x hx=>?_,hok.sm⟩ rfl (by omega) (by omega) ?_ (fun t ht=>?_) (by simp)
 ·rcases Xs.1 hx with hx | hx
  ·exact hok.qm x hx
  ·rw [XH] at hx;subst hx;exact hm
 ·have:tk [m] = [n+1]:=by simp [tk,h0];omega
  simp only [Zbq,this,Xw]
  exact List.Perm.append_left _ TH
 ·rw [XH] at ht;omega
theorem ZoH {n:Int} {es:List Ep} (h:Vld n es) {k:Nat} (hk:k < es.length) {m:Ms} {q:List Ms} (hq:es[k].q=m::q) (hs:es[k].s.length < 400):Vld n (es.set k (Zbd es[k] m q)):=by
 have hok:=h.ok _ (Xy hk)
 have hql:=hok.ql
 rw [hq] at hql
 have hm:KV m:=hok.qm m (by rw [hq];simp)
 have hqm:∀ x∈q,KV x:=fun x hx=>hok.qm x (by rw [hq];simp [hx])
 have h0:=hm.1
 unfold Zbd
 split
 ·rename_i ht
  refine ZeT (r:=[]) h hk ⟨hok.o0,hok.o1,hok.v0,hok.v1,by simp at hql ⊢; omega,by simp;omega,hqm,fun x hx=>?_⟩ rfl (Int.le_refl _) h.n1 ?_ (fun t ht=>by cases ht) List.nodup_nil
  ·rcases Xs.1 hx with hx | hx
   ·exact hok.sm x hx
   ·rw [XH] at hx;subst hx;exact ⟨hm,by omega⟩
  ·rw [hq]
   have:tk (m::q)=tk [m]++tk q:=Zbq [m] q
   simp only [Zbq,this,Us]
   rw [Xw,← Xw]
   exact TH
 ·rename_i ht
  refine ZeT (r:=[]) h hk ⟨hok.o0,hok.o1,hok.v0,hok.v1,by simp at hql ⊢; omega,hok.sl,hqm,hok.sm⟩ rfl (Int.le_refl _) h.n1 ?_ (fun t ht=>by cases ht) List.nodup_nil
  rw [hq]
  have h2:tk [m] = []:=by
   have:m.t=0:=by omega
   simp [tk,this]
  have:tk (m::q)=tk [m]++tk q:=Zbq [m] q
  simp only [Zbq,this,h2,Us,X4]
  exact List.Perm.refl _
theorem s8:g8=Xa Xb:=by kernel_rfl
def S (o v:Int) (q s:List Ms):List Ep:=[⟨o,v,q,s⟩]
noncomputable def F16:Fn:=⟨50,[4],[(5,[(1,.c (.int .i64)),(5,.c (.own Xb 3)),(14,.c (.slice 4)),(15,.c (.int .i64)),(16,.c (.int .i64))]),(8,[(1,.c (.int .i64)),(5,.c (.own Xb 3)),(14,.c (.slice 4)),(15,.c (.int .i64)),(16,.c (.int .i64)),(25,.c (.own Xb 41)),(26,.c (.int .i64)),(27,.c (.int .i64))])],[],0,[4,5,24,44],[(15,[(5,0)])],Try.f16,[.agg [.int .i64,.slice 4],.c (.int .i64)],[.c (.slice 1)],[(22,F22.S),(44,F44.S)]⟩
theorem Zvp:F16.S.Ok Try.prog 16:=F16.ok Try.func16 (by kernel_rfl) ⟨Zn5,⟨Ztq,trivial⟩⟩
noncomputable def g16 (x0:Int) (x1:LL) (x2:Int):Option (LL):=F16.S.g [.i x0,.l x1,.i x2]
noncomputable def ZkI (rec0:List V→Option (LL)) (k:Nat) (x0:Int) (x1:LL) (x2:LL) (x3:Int) (x4:Int) (x5:LL) (x6:Int) (x7:Int):Option (LL):=F16.lp [0,1,2,3] 1 (Zjd r0 0 rec0) k [.i x0,.l x1,.l x2,.i x3,.i x4,.l x5,.i x6,.i x7]
theorem Zpt (rec0:List V→Option (LL)) (k:Nat) (x0:Int) (x1:LL) (x2:LL) (x3:Int) (x4:Int) (x5:LL) (x6:Int) (x7:Int):ZkI rec0 (k+1) x0 x1 x2 x3 x4 x5 x6 x7 =
 (if (cop .lss x7 x6)=Xb then
 Zm ((0:Int)≤x7)<|
 Zm ((x7:Int) < (Xh x5:Int))<|
 ZB x5 x7 [.int .i64,.int .i64,.slice 1,.int .i64] fun (r8:Int×Int×LL×Int)=>
 if (cop .eql r8.2.1 x0)=Xb then
 if (cop .gtr r8.1 0)=Xb then
 Zm (ZV x1 (E0++[[AV.val (.int .i64 r8.1)]]) 8)<|
 ZkI rec0 k x0 (x1++(E0++[[AV.val (.int .i64 r8.1)]])) x2 x3 x4 x5 x6 (iop .add .i64 x7 1)
 else
 ZkI rec0 k x0 x1 x2 x3 x4 x5 x6 (iop .add .i64 x7 1)
 else
 ZkI rec0 k x0 x1 x2 x3 x4 x5 x6 (iop .add .i64 x7 1)
 else
 rec0 [.i x0,.l x1,.l x2,.i x3,.i (iop .add .i64 x4 1)]):=by kernel_rfl
noncomputable def Zrl (k:Nat) (x0:Int) (x1:LL) (x2:LL) (x3:Int) (x4:Int):Option (LL):=F16.lp [0,1,0] 0 r0 k [.i x0,.l x1,.l x2,.i x3,.i x4]
theorem Zor (k:Nat) (x0:Int) (x1:LL) (x2:LL) (x3:Int) (x4:Int):Zrl (k+1) x0 x1 x2 x3 x4 =
 (if (cop .lss x4 x3)=Xb then
 ZB x2 x4 [.int .i64,.int .i64,.slice 4,.slice 4] fun (r5:Int×Int×LL×LL)=>
 (g44 ((E0++[[AV.slice Xc 4 r5.2.2.1]])++[[AV.slice Xc 4 r5.2.2.2]])).bind fun (r9:LL)=>
 ZkI (F16.lp [0,1,0] 0 r0 k) J6 x0 x1 x2 x3 x4 r9 (Xh r9:Int) 0
 else
 Zm (qop .ints x1 0=Xb)<|
 Xa ((Ze9 x1))):=by kernel_rfl
theorem Zqk (x0:Int) (x1:LL) (x2:Int):g16 x0 x1 x2 =
 ((g22 x0 x1).bind fun (r3:Bool)=>
 if (!r3)=Xb then
 Xa (E0)
 else
 Zrl J6 x2 E0 x1 (Xh x1:Int) 0):=by kernel_rfl
noncomputable def F54:Fn:=⟨30,[2],[(3,[(3,.c (.own Xc 50)),(11,.c (.own Xb 41)),(12,.c (.int .i64)),(13,.c (.int .i64))])],[],0,[],[],Try.f54,[.agg [.int .i64,.int .i64,.slice 4,.slice 4]],[.c (.own Xc 50)],[(44,F44.S)]⟩
theorem Zuh:F54.S.Ok Try.prog 54:=F54.ok Try.func54 (by kernel_rfl) ⟨Ztq,trivial⟩
noncomputable def g54 (x0:Int) (x1:Int) (x2:LL) (x3:LL):Option (LL):=F54.S.g [.i x0,.i x1,.l x2,.l x3]
noncomputable def Zk3 (k:Nat) (x0:LL) (x1:LL) (x2:Int) (x3:Int):Option (LL):=F54.lp [2] 0 r0 k [.l x0,.l x1,.i x2,.i x3]
theorem ZnR (k:Nat) (x0:LL) (x1:LL) (x2:Int) (x3:Int):Zk3 (k+1) x0 x1 x2 x3 =
 (if (cop .lss x3 x2)=Xb then
 Zm ((0:Int)≤x3)<|
 Zm ((x3:Int) < (Xh x1:Int))<|
 ZB x1 x3 [.int .i64,.int .i64,.slice 1,.int .i64] fun (r4:Int×Int×LL×Int)=>
 if (cop .gtr r4.1 0)=Xb then
 Zm (ZV x0 (E0++[[AV.val (.int .i64 r4.1),AV.val (.int .i64 r4.2.1),AV.val (.int .i64 16),AV.slice Xc 1 E0]]) 48)<|
 Zk3 k (x0++(E0++[[AV.val (.int .i64 r4.1),AV.val (.int .i64 r4.2.1),AV.val (.int .i64 16),AV.slice Xc 1 E0]])) x1 x2 (iop .add .i64 x3 1)
 else
 Zk3 k x0 x1 x2 (iop .add .i64 x3 1)
 else
 Xa (x0)):=by kernel_rfl
theorem ZrY (x0:Int) (x1:Int) (x2:LL) (x3:LL):g54 x0 x1 x2 x3 =
 ((g44 ((E0++[[AV.slice Xc 4 x3]])++[[AV.slice Xc 4 x2]])).bind fun (r4:LL)=>
 Zk3 J6 E0 r4 (Xh r4:Int) 0):=by kernel_rfl
noncomputable def F55.S:Fun:=Ztu Xc 80
theorem Zuq:F55.S.Ok Try.prog 55:=delF_ok (T:=26) (B:=4) (I:=3) (U:=0) (e:=80) (bytes:=64) mixed (by kernel_rfl) Try.func55 (by kernel_rfl) ⟨by kernel_rfl,by kernel_rfl,by kernel_rfl⟩
noncomputable def g55 (x0:LL) (x1 x2:Int):Option LL:=F55.S.g [.l x0,.i x1,.i x2]
theorem Zsu (x0:LL) (x1 x2:Int):g55 x0 x1 x2=Zsm x0 x1 x2:=rfl
noncomputable def F24:Fn:=⟨42,[4,5,6],[],[],0,[],[(7,[(9,2)])],Try.f24,[.agg [.int .i64,.slice 4],.c (.int .i64)],[.agg [.int .i64,.slice 4],.c (.own Xc 50),.c (.int .i64)],[(22,F22.S),(39,F39.S),(40,F40.S),(54,F54.S),(55,F55.S)]⟩
theorem Zu8:F24.S.Ok Try.prog 24:=F24.ok Try.func24 (by kernel_rfl) ⟨Zn5,⟨Zs4,⟨ZrL,⟨Zuh,⟨Zuq,trivial⟩⟩⟩⟩⟩
noncomputable def g24 (x0:Int) (x1:LL) (x2:Int):Option (Int×LL×LL×Int):=F24.S.g [.i x0,.l x1,.i x2]
theorem Zk1 (x0:Int) (x1:LL) (x2:Int):g24 x0 x1 x2 =
 ((g22 x0 x1).bind fun (r3:Bool)=>
 if (!r3)=Xb then
 Xa (0,E0,E0,74)
 else
 (g39 x0 x1).bind fun (r4:LL)=>
 Zm (qop .mapv r4 0=Xb)<|
 ZB (ZbJ r4 x2 [AV.val (.int .i64 0)]) 0 [.int .i64,.bool] fun (r5:Int×Bool)=>
 if (!r5.2)=Xb then
 Xa (0,E0,E0,17)
 else
 (g40 x0 x1).bind fun (r7:Int×LL)=>
 Zm ((0:Int)≤r5.1)<|
 Zm ((r5.1:Int) < (Xh (Yl r7.2):Int))<|
 ZB (Yl r7.2) r5.1 [.int .i64,.int .i64,.slice 4,.slice 4] fun (r9:Int×Int×LL×LL)=>
 (g54 r9.1 r9.2.1 r9.2.2.1 r9.2.2.2).bind fun (r13:LL)=>
 (g55 (Yl r7.2) r5.1 (iop .add .i64 r5.1 1)).bind fun (r14:LL)=>
 Xa (r7.1,r14,r13,0)):=by kernel_rfl
noncomputable def F58:Fn:=⟨8,[3],[],[1],0,[],[],Try.f58,[.agg [.int .i64,.int .i64,.slice 1,.int .i64],.box [.int .i64]],[.c (.bool)],[]⟩
theorem ZtX:F58.S.Ok Try.prog 58:=F58.ok Try.func58 (by kernel_rfl) trivial
noncomputable def g58 (x0:Int) (x1:Int) (x2:LL) (x3:Int) (x4:Int):Option (Bool×Int):=F58.S.g [.i x0,.i x1,.l x2,.i x3,.i x4]
theorem ZpY (x0:Int) (x1:Int) (x2:LL) (x3:Int) (x4:Int):g58 x0 x1 x2 x3 x4 =
 (Xa ((cop .eql x1 x4),x4)):=by kernel_rfl
noncomputable def Zgx:Fn:=⟨19,[4],[(2,[(0,.c (.slice 4)),(1,.clo 58 [19]),(7,.c (.int .i64)),(8,.c (.int .i64)),(19,.gbox [.int .i64])])],[],1,[],[],Try.f46,[.c (.slice 4),.clo 58 [19],.dead,.dead,.dead,.dead,.dead,.dead,.dead,.dead,.dead,.dead,.dead,.dead,.dead,.dead,.dead,.dead,.dead,.gbox [.int .i64]],[.c (.int .i64)],[(58,F58.S)]⟩
theorem ZqM:Zgx.S.Ok Try.prog 46:=Zgx.ok Try.func46 (by kernel_rfl) ⟨ZtX,trivial⟩
noncomputable def Zl2 (x0:LL) (x1:Int):Option (Int×Int):=Zgx.S.g [.l x0,.i x1]
noncomputable def Zb2 (k:Nat) (x0:LL) (x1:Int) (x2:Int) (x3:Int):Option (Int×Int):=Zgx.lp [0] 0 r0 k [.l x0,.i x1,.i x2,.i x3]
theorem Zib (k:Nat) (x0:LL) (x1:Int) (x2:Int) (x3:Int):Zb2 (k+1) x0 x1 x2 x3 =
 (if (cop .lss x2 x1)=Xb then
 ZB x0 x2 [.int .i64,.int .i64,.slice 1,.int .i64] fun (r4:Int×Int×LL×Int)=>
 (g58 r4.1 r4.2.1 r4.2.2.1 r4.2.2.2 x3).bind fun (r8:Bool×Int)=>
 if r8.1=Xb then
 Xa (x2,r8.2)
 else
 Zb2 k x0 x1 (iop .add .i64 x2 1) r8.2
 else
 Xa ((-1),x3)):=by kernel_rfl
theorem Znm (x0:LL) (x1:Int):Zl2 x0 x1 =
 (Zb2 J6 x0 (Xh x0:Int) 0 x1):=by kernel_rfl
noncomputable def Zgq:Fn:=⟨42,[4],[(5,[(0,.c (.own Xb 41)),(1,.clo 58 [42]),(5,.c (.int .i64)),(6,.c (.int .i64)),(42,.gbox [.int .i64])])],[],1,[4],[],Try.f59,[.c (.own Xb 41),.clo 58 [42],.dead,.dead,.dead,.dead,.dead,.dead,.dead,.dead,.dead,.dead,.dead,.dead,.dead,.dead,.dead,.dead,.dead,.dead,.dead,.dead,.dead,.dead,.dead,.dead,.dead,.dead,.dead,.dead,.dead,.dead,.dead,.dead,.dead,.dead,.dead,.dead,.dead,.dead,.dead,.dead,.gbox [.int .i64]],[.c (.own Xb 41)],[(46,Zgx.S),(58,F58.S)]⟩
theorem ZqQ:Zgq.S.Ok Try.prog 59:=Zgq.ok Try.func59 (by kernel_rfl) ⟨ZqM,⟨ZtX,trivial⟩⟩
noncomputable def ZjA (x0:LL) (x1:Int):Option (LL×Int):=Zgq.S.g [.l x0,.i x1]
noncomputable def ZaH (k:Nat) (x0:LL) (x1:Int) (x2:Int) (x3:Int):Option (LL×Int):=Zgq.lp [0,1,0] 0 r0 k [.l x0,.i x1,.i x2,.i x3]
theorem Zc5 (k:Nat) (x0:LL) (x1:Int) (x2:Int) (x3:Int):ZaH (k+1) x0 x1 x2 x3 =
 (if (cop .lss x2 (Xh x0:Int))=Xb then
 Zm ((0:Int)≤x2)<|
 Zm ((x2:Int) < (Xh x0:Int))<|
 ZB x0 x2 [.int .i64,.int .i64,.slice 1,.int .i64] fun (r4:Int×Int×LL×Int)=>
 (g58 r4.1 r4.2.1 r4.2.2.1 r4.2.2.2 x3).bind fun (r8:Bool×Int)=>
 if (!r8.1)=Xb then
 Zm ((0:Int)≤x1)<|
 Zm ((x1:Int) < (Xh x0:Int))<|
 Zm ((0:Int)≤x1)<|
 Zm ((x1:Int) < (Xh x0:Int))<|
 ZaH k (Zq x0 (Xg x1) 0 [AV.val (.int .i64 r4.1),AV.val (.int .i64 r4.2.1),AV.slice Xc 1 r4.2.2.1,AV.val (.int .i64 r4.2.2.2)]) (iop .add .i64 x1 1) (iop .add .i64 x2 1) r8.2
 else
 ZaH k x0 x1 (iop .add .i64 x2 1) r8.2
 else
 Zm ((0:Int)≤x1)<|
 Zm ((x1:Int)≤(Xh x0:Int))<|
 Zm ((0:Int)≤x1)<|
 Zm ((x1:Int)≤(Xh ((UR (Xg x1) x0)++(XG (Xg (iop .sub .i64 (Xh x0:Int) x1)) [AV.val (.int .i64 0),AV.val (.int .i64 0),AV.slice Xc 1 E0,AV.val (.int .i64 0)])):Int))<|
 Xa ((UR (Xg x1) ((UR (Xg x1) x0)++(XG (Xg (iop .sub .i64 (Xh x0:Int) x1)) [AV.val (.int .i64 0),AV.val (.int .i64 0),AV.slice Xc 1 E0,AV.val (.int .i64 0)]))),x3)):=by kernel_rfl
theorem ZmX (x0:LL) (x1:Int):ZjA x0 x1 =
 ((Zl2 x0 x1).bind fun (r2:Int×Int)=>
 if (cop .eql r2.1 (-1))=Xb then
 Xa (x0,r2.2)
 else
 ZaH J6 x0 r2.1 (iop .add .i64 r2.1 1) r2.2):=by kernel_rfl
noncomputable def F32:Fn:=⟨60,[4,5,6],[(11,[(8,.box [.int .i64,.own Xb 2097232]),(3,.box [.int .i64]),(4,.box [.int .i64,.slice 4]),(7,.clo 58 [3]),(9,.box [.int .i64,.own Xc 80]),(10,.c (.own Xc 50)),(27,.mref 8 2),(28,.c (.int .i64)),(29,.c (.int .i64))])],[],0,[24,32],[(16,[(12,3),(12,4)]),(17,[(12,3),(12,4)])],Try.f32,[.agg [.int .i64,.slice 4],.c (.int .i64)],[.agg [.int .i64,.slice 4],.c (.own Xc 50),.c (.int .i64)],[(22,F22.S),(38,F38.S),(40,F40.S),(59,Zgq.S),(54,F54.S)]⟩
theorem Zu5:F32.S.Ok Try.prog 32:=F32.ok Try.func32 (by kernel_rfl) ⟨Zn5,⟨Zs5,⟨ZrL,⟨ZqQ,⟨Zuh,trivial⟩⟩⟩⟩⟩
noncomputable def g32 (x0:Int) (x1:LL) (x2:Int):Option (Int×LL×LL×Int):=F32.S.g [.i x0,.l x1,.i x2]
noncomputable def ZlY (k:Nat) (x0:Int) (x1:LL) (x2:Int) (x3:Int) (x4:LL) (x5:Int) (x6:LL) (x7:LL) (x8:Int) (x9:Int):Option (Int×LL×LL×Int):=F32.lp [0,1,0,1,2] 0 r0 k [.i x0,.l x1,.i x2,.i x3,.l x4,.i x5,.l x6,.l x7,.i x8,.i x9]
theorem ZoB (k:Nat) (x0:Int) (x1:LL) (x2:Int) (x3:Int) (x4:LL) (x5:Int) (x6:LL) (x7:LL) (x8:Int) (x9:Int):ZlY (k+1) x0 x1 x2 x3 x4 x5 x6 x7 x8 x9 =
 (if (cop .lss x9 x8)=Xb then
 Zm ((0:Int)≤x9)<|
 Zm ((x9:Int) < (Xh x1:Int))<|
 Zm (qop (.nst 2 4 41) x1 x9=Xb)<|
 Zm (qop (.nst 3 4 41) x1 x9=Xb)<|
 ZB (Zdx (JZ x1 (Xg x9) 0 4) 0 4) x9 [.int .i64,.int .i64,.slice 4,.slice 4] fun (r10:Int×Int×LL×LL)=>
 (ZjA r10.2.2.1 x2).bind fun (r14:LL×Int)=>
 (ZjA r10.2.2.2 r14.2).bind fun (r16:LL×Int)=>
 if (cop .eql r10.2.1 r16.2)=Xb then
 (g54 r10.1 r10.2.1 r14.1 r16.1).bind fun (r18:LL)=>
 Zm (ZV x7 r18 48)<|
 ZlY k x0 (Zqm x1 (Xg x9)) r16.2 x3 x4 x5 x6 (x7++r18) x8 (iop .add .i64 x9 1)
 else
 Zm (ZV x6 (E0++[[AV.val (.int .i64 r10.1),AV.val (.int .i64 r10.2.1),AV.slice Xc 4 r14.1,AV.slice Xc 4 r16.1]]) 64)<|
 ZlY k x0 (Zqm x1 (Xg x9)) r16.2 x3 x4 x5 (x6++(E0++[[AV.val (.int .i64 r10.1),AV.val (.int .i64 r10.2.1),AV.slice Xc 4 r14.1,AV.slice Xc 4 r16.1]])) x7 x8 (iop .add .i64 x9 1)
 else
 Xa (x5,x6,x7,0)):=by kernel_rfl
theorem Zle (x0:Int) (x1:LL) (x2:Int):g32 x0 x1 x2 =
 ((g22 x0 x1).bind fun (r3:Bool)=>
 if (!r3)=Xb then
 Xa (0,E0,E0,74)
 else
 (g38 x2).bind fun (r4:Bool)=>
 if (!r4)=Xb then
 Xa (0,E0,E0,1)
 else
 (g40 x0 x1).bind fun (r5:Int×LL)=>
 ZlY J6 r5.1 r5.2 x2 0 E0 r5.1 E0 E0 (Xh r5.2:Int) 0):=by kernel_rfl
noncomputable def F50:Fn:=⟨9,[2],[],[],0,[],[],Try.f50,[.c (.int .i64)],[.c (.bool)],[]⟩
theorem Zs1:F50.S.Ok Try.prog 50:=F50.ok Try.func50 (by kernel_rfl) trivial
noncomputable def g50 (x0:Int):Option (Bool):=F50.S.g [.i x0]
theorem Zqd (x0:Int):g50 x0 =
 (if (cop .geq x0 0)=Xb then
 Xa ((cop .lss x0 32))
 else
 Xa (Xc)):=by kernel_rfl
noncomputable def F53:Fn:=⟨27,[2],[],[],0,[],[],Try.f53,[.agg [.int .i64,.int .i64,.slice 1,.int .i64]],[.c (.bool)],[(50,F50.S)]⟩
theorem Zub:F53.S.Ok Try.prog 53:=F53.ok Try.func53 (by kernel_rfl) ⟨Zs1,trivial⟩
noncomputable def g53 (x0:Int) (x1:Int) (x2:LL) (x3:Int):Option (Bool):=F53.S.g [.i x0,.i x1,.l x2,.i x3]
theorem Zqn (x0:Int) (x1:Int) (x2:LL) (x3:Int):g53 x0 x1 x2 x3 =
 (if (cop .geq x0 0)=Xb then
 (g50 x1).bind fun (r4:Bool)=>
 if r4=Xb then
 if (cop .leq (Xh x2:Int) 8)=Xb then
 if (cop .geq x3 (-1))=Xb then
 Xa ((cop .lss x3 64))
 else
 Xa (Xc)
 else
 Xa (Xc)
 else
 Xa (Xc)
 else
 Xa (Xc)):=by kernel_rfl
noncomputable def F23:Fn:=⟨139,[2],[(5,[(1,.box [.int .i64,.slice 4]),(3,.c (.own Xc 3)),(4,.c (.int .i64))]),(12,[(1,.box [.int .i64,.slice 4]),(3,.c (.own Xc 3)),(4,.c (.int .i64)),(5,.box [.int .i64,.int .i64,.slice 4,.slice 4]),(6,.c (.slice 4)),(7,.c (.int .i64))]),(20,[(3,.c (.own Xc 3)),(9,.c (.int .i64))]),(23,[(3,.c (.own Xc 3)),(9,.c (.int .i64)),(10,.c (.int .i64))])],[],0,[],[],Try.f23,[.agg [.int .i64,.slice 4]],[.c (.bool)],[(50,F50.S),(53,F53.S)]⟩
theorem ZpS:F23.S.Ok Try.prog 23:=F23.ok Try.func23 (by kernel_rfl) ⟨Zs1,⟨Zub,trivial⟩⟩
noncomputable def g23 (x0:Int) (x1:LL):Option (Bool):=F23.S.g [.i x0,.l x1]
noncomputable def WN (rec0:List V→Option (Bool)) (k:Nat) (x0:Int) (x1:LL) (x2:LL) (x3:Int) (x4:Int) (x5:Int) (x6:LL) (x7:LL) (x8:LL) (x9:Int):Option (Bool):=F23.lp [1,1,1,2,0,1,1,0,0,1,0,1,1,3] 1 (Zjd r0 0 rec0) k [.i x0,.l x1,.l x2,.i x3,.i x4,.i x5,.l x6,.l x7,.l x8,.i x9]
theorem ZiB (rec0:List V→Option (Bool)) (k:Nat) (x0:Int) (x1:LL) (x2:LL) (x3:Int) (x4:Int) (x5:Int) (x6:LL) (x7:LL) (x8:LL) (x9:Int):WN rec0 (k+1) x0 x1 x2 x3 x4 x5 x6 x7 x8 x9 =
 (if (cop .lss x9 (Xh x8:Int))=Xb then
 ZB x8 x9 [.int .i64,.int .i64,.slice 1,.int .i64] fun (r10:Int×Int×LL×Int)=>
 (g53 r10.1 r10.2.1 r10.2.2.1 r10.2.2.2).bind fun (r14:Bool)=>
 if (!r14)=Xb then
 Xa (Xc)
 else
 if (cop .gtr r10.1 x0)=Xb then
 Xa (Xc)
 else
 if (cop .lss x9 (Xh x7:Int))=Xb then
 if (cop .eql r10.1 0)=Xb then
 Xa (Xc)
 else
 if (cop .gtr r10.1 0)=Xb then
 Zm (ZV x2 (E0++[[AV.val (.int .i64 r10.1)]]) 8)<|
 WN rec0 k x0 x1 (x2++(E0++[[AV.val (.int .i64 r10.1)]])) x3 x4 x5 x6 x7 x8 (iop .add .i64 x9 1)
 else
 WN rec0 k x0 x1 x2 x3 x4 x5 x6 x7 x8 (iop .add .i64 x9 1)
 else
 if (cop .gtr r10.1 0)=Xb then
 Zm (ZV x2 (E0++[[AV.val (.int .i64 r10.1)]]) 8)<|
 WN rec0 k x0 x1 (x2++(E0++[[AV.val (.int .i64 r10.1)]])) x3 x4 x5 x6 x7 x8 (iop .add .i64 x9 1)
 else
 WN rec0 k x0 x1 x2 x3 x4 x5 x6 x7 x8 (iop .add .i64 x9 1)
 else
 rec0 [.i x0,.l x1,.l x2,.i (iop .add .i64 x3 1)]):=by kernel_rfl
noncomputable def Zng (rec0:List V→Option (Bool)) (k:Nat) (x0:LL) (x1:Int) (x2:Int):Option (Bool):=F23.lp [1,1,1,0,1,2,0] 1 (Zjd r0 0 rec0) k [.l x0,.i x1,.i x2]
theorem ZbS (rec0:List V→Option (Bool)) (k:Nat) (x0:LL) (x1:Int) (x2:Int):Zng rec0 (k+1) x0 x1 x2 =
 (if (cop .lss x2 x1)=Xb then
 ZB x0 x1 [.int .i64] fun (r3:Int)=>
 ZB x0 x2 [.int .i64] fun (r4:Int)=>
 if (cop .eql r3 r4)=Xb then
 Xa (Xc)
 else
 Zng rec0 k x0 x1 (iop .add .i64 x2 1)
 else
 rec0 [.l x0,.i (iop .add .i64 x1 1)]):=by kernel_rfl
noncomputable def Zlo (k:Nat) (x0:LL) (x1:Int):Option (Bool):=F23.lp [1,1,1,0,1,0] 0 r0 k [.l x0,.i x1]
theorem ZbX (k:Nat) (x0:LL) (x1:Int):Zlo (k+1) x0 x1 =
 (if (cop .lss x1 (Xh x0:Int))=Xb then
 Zng (F23.lp [1,1,1,0,1,0] 0 r0 k) J6 x0 x1 0
 else
 Xa (Xb)):=by kernel_rfl
noncomputable def ZpA (k:Nat) (x0:Int) (x1:LL) (x2:LL) (x3:Int):Option (Bool):=F23.lp [1,1,1,0] 0 r0 k [.i x0,.l x1,.l x2,.i x3]
theorem ZjB (k:Nat) (x0:Int) (x1:LL) (x2:LL) (x3:Int):ZpA (k+1) x0 x1 x2 x3 =
 (if (cop .lss x3 (Xh x1:Int))=Xb then
 ZB x1 x3 [.int .i64,.int .i64,.slice 4,.slice 4] fun (r4:Int×Int×LL×LL)=>
 if (cop .lss r4.1 0)=Xb then
 Xa (Xc)
 else
 if (cop .geq r4.1 1099511627776)=Xb then
 Xa (Xc)
 else
 if (cop .gtr x3 0)=Xb then
 ZB x1 (iop .sub .i64 x3 1) [.int .i64,.int .i64,.slice 4,.slice 4] fun (r8:Int×Int×LL×LL)=>
 if (cop .leq r4.1 r8.1)=Xb then
 Xa (Xc)
 else
 (g50 r4.2.1).bind fun (r12:Bool)=>
 if (!r12)=Xb then
 Xa (Xc)
 else
 if (cop .gtr (Xh r4.2.2.1:Int) 8)=Xb then
 Xa (Xc)
 else
 Zm (ZV E0 r4.2.2.2 48)<|
 Zm (ZV r4.2.2.2 r4.2.2.1 48)<|
 WN (F23.lp [1,1,1,0] 0 r0 k) J6 x0 x1 x2 x3 r4.1 r4.2.1 r4.2.2.1 r4.2.2.2 (r4.2.2.2++r4.2.2.1) 0
 else
 (g50 r4.2.1).bind fun (r8:Bool)=>
 if (!r8)=Xb then
 Xa (Xc)
 else
 if (cop .gtr (Xh r4.2.2.1:Int) 8)=Xb then
 Xa (Xc)
 else
 Zm (ZV E0 r4.2.2.2 48)<|
 Zm (ZV r4.2.2.2 r4.2.2.1 48)<|
 WN (F23.lp [1,1,1,0] 0 r0 k) J6 x0 x1 x2 x3 r4.1 r4.2.1 r4.2.2.1 r4.2.2.2 (r4.2.2.2++r4.2.2.1) 0
 else
 Zlo J6 x2 0):=by kernel_rfl
theorem Zqa (x0:Int) (x1:LL):g23 x0 x1 =
 (if (cop .lss x0 0)=Xb then
 Xa (Xc)
 else
 if (cop .gtr x0 1099511627776)=Xb then
 Xa (Xc)
 else
 if (cop .gtr (Xh x1:Int) 32)=Xb then
 Xa (Xc)
 else
 ZpA J6 x0 x1 E0 0):=by kernel_rfl
theorem Zaf {i:Nat} (h:i < 100000):iop .add .i64 (i:Int) 1=((i+1:Nat):Int):=by
 rw [Zni (by omega) (by omega)];omega
def oc (p:Int×Int):List AV:=[I p.1,I p.2,I 16,.slice Xc 1 E0]
def outs (l:List Ms):List (Int×Int):=(l.filter fun m=>decide (0 < m.t)).map fun m=>(m.t,m.c)
theorem W2 {l:List Ms} {j:Nat} (h:j < l.length):outs (l.take (j+1))=if 0 < l[j].t then outs (l.take j)++[(l[j].t,l[j].c)] else outs (l.take j):=by
 unfold outs
 rw [Um h,U0,XJ]
 by_cases h0:0 < l[j].t
 ·rw [if_pos h0];simp [h0]
 ·rw [if_neg h0];simp [h0]
theorem Ve (l:List Ms):(outs l).length≤l.length:=by
 unfold outs
 rw [Xi]
 exact TJ _ _
theorem Wi {a b:LL} {k:Nat} (h:a.length+b.length≤100000) (hk:k≤10000):ZV a b k:=by
 unfold ZV Jc
 have:(a.length+b.length)*(k+1)≤100000*10001:=Nat.mul_le_mul h (by omega)
 omega
theorem s54 (o v:Int) (q s:List Ms) (hq:q.length≤400) (hs:s.length≤400):g54 o v (q.map mc) (s.map mc)=Xa ((outs (s++q)).map oc):=by
 refine ZA ?_
 rw [ZrY]
 refine Za (s44 s q hs hq) ?_
 obtain ⟨l,hl⟩:∃ l,l=s++q:=⟨_,rfl⟩
 have hll:l.length≤800:=by rw [hl,Xr];omega
 rw [← hl,Xi]
 refine Zu (F:=fun k (x:LL) i=>Zk3 k x (l.map mc) (l.length:Int) i) l.length (fun i x=>x=(outs (l.take i)).map oc) (by omega) (fun k i x hi hx next=>?_) E0 (by simp [outs])
 subst hx
 refine Ze (ZnR ..) (Zb (fun hh=>?_) fun hh=>?_)
 ·simp only [CQ] at hh
  have hi':i < l.length:=by omega
  have hlen:=Ve (l.take i)
  rw [Xt] at hlen
  refine Zc (by omega) (Zc (by rw [Xi];omega) (Ze (Jo hi' _) (Zb (fun ht=>?_) fun ht=>?_)))
  ·simp only [CQ,mv] at ht
   refine Zc (ZD (by simp;omega) (by decide)) ?_
   rw [Ji hi (by omega)]
   refine next hi' _ ?_
   rw [W2 hi',if_pos ht,XJ]
   rfl
  ·simp only [CQ,mv] at ht
   rw [Ji hi (by omega)]
   exact next hi' _ (by rw [W2 hi',if_neg (by omega)])
 ·simp only [CQ] at hh
  have:i=l.length:=by omega
  subst this
  rw [XW]
  exact Zd rfl
theorem s24 (n:Int) (es:List Ep) (h:Vld n es) (k:Nat) (hk:k < es.length):g24 n (es.map ec) es[k].o=Xa (n,(es.take k++es.drop (k+1)).map ec,(outs (es[k].s++es[k].q)).map oc,0):=by
 refine ZA ?_
 have hlen:=h.len
 have hok:=h.ok _ (Xy hk)
 rw [Zk1]
 refine Za (s22 n es h) (Zb (fun h=>by cases h) fun _=>Za (s39 n es (by omega) h.ord) (Zc rfl ?_))
 refine Ze (Yp (WB hk h.ord) _) (Zb (fun h=>by cases h) fun _=>Za (s40 n es (by omega) h.few) ?_)
 rw [Zcz]
 refine Zc (by omega) (Zc (by rw [Xi];omega) (Ze (ZX hk _) (Za (s54 _ _ es[k].q es[k].s (by have:=hok.ql;omega) hok.sl) (Za (a:=(es.take k++es.drop (k+1)).map ec) ?_ (Zd rfl)))))
 rw [Zsu,Zaf (by omega)]
 unfold Zsm
 rw [JX (by omega),JX (by omega),JX (by rw [Xi];omega),XQ,XQ]
 simp [Ui,Ut]
theorem Zvi (n:Int) (es:List Ep) (h:Vld n es) (o:Int) (hno:∀ e∈es,e.o≠o):g24 n (es.map ec) o=Xa (0,E0,E0,17):=by
 refine ZA ?_
 have hlen:=h.len
 rw [Zk1]
 refine Za (s22 n es h) (Zb (fun h=>by cases h) fun _=>Za (s39 n es (by omega) h.ord) (Zc rfl ?_))
 exact Ze (Yp (Zaw hno) _) (Zb (fun _=>Zd rfl) fun h=>(h rfl).elim)
def keep (d:Int) (l:List Ms):List Ms:=l.filter fun m=>decide (m.c≠d)
theorem Y8 {d:Int} {l:List Ms} {j:Nat} (h:j < l.length):keep d (l.take (j+1))=if l[j].c=d then keep d (l.take j) else keep d (l.take j)++[l[j]]:=by
 unfold keep
 rw [Um h,U0]
 by_cases h0:l[j].c=d
 ·rw [if_pos h0];simp [h0]
 ·rw [if_neg h0];simp [h0]
theorem J7 (d:Int) (l:List Ms):(keep d l).length≤l.length:=TJ _ _
theorem Zuo (l:List Ms) (hl:l.length < 1000) (d:Int):Ret (fun r=>r.2=d∧((r.1 = -1∧∀ m∈l,m.c≠d)∨∃ j:Nat,r.1=(j:Int)∧j < l.length∧∃ hj:j < l.length,l[j].c=d∧∀ (i:Nat) (hi:i < j),l[i].c≠d)) (Zl2 (l.map mc) d):=by
 rw [Znm,Xi]
 refine Zu (F:=fun k (_:Unit) i=>Zb2 k (l.map mc) (l.length:Int) i d) l.length (fun i _=>∀ (j:Nat) (hj:j < l.length),j < i→l[j].c≠d) hl (fun k i _ hi hs next=>?_) () (fun j hj h=>by omega)
 refine Ze (Zib ..) (Zb (fun hh=>?_) fun hh=>?_)
 ·simp only [CQ] at hh
  have hi':i < l.length:=by omega
  refine Ze (Jo hi' _) (Za (ZpY ..) (Zb (fun h1=>?_) fun h1=>?_))
  ·simp only [CQ,mv] at h1
   exact Zd ⟨rfl,.inr ⟨i,rfl,hi',hi',h1,fun j hj=>hs j (by omega) hj⟩⟩
  ·simp only [CQ,mv] at h1
   rw [Ji hi hl]
   refine next hi' () fun j hj hji=>?_
   by_cases hje:j=i
   ·subst hje;exact h1
   ·exact hs j hj (by omega)
 ·simp only [CQ] at hh
  refine Zd ⟨rfl,.inl ⟨rfl,fun m hm=>?_⟩⟩
  obtain ⟨j,hj,rfl⟩:=Uz hm
  exact hs j hj (by omega)
theorem Zrm (l:List Ms) (w:Nat) (hw:w < l.length) (m:Ms):Zq (l.map mc) w 0 (mc m)=(l.set w m).map mc:=by
 have:(l.map mc)[w]? = Xa (mc l[w]):=by rw [Xl,Xq hw];rfl
 rw [show Zq (l.map mc) w 0 (mc m)=(l.map mc).modify w (fun x=>setCells x 0 (mc m)) from rfl,Jt this,Uv]
 rfl
theorem s59 (l:List Ms) (hl:l.length≤400) (d:Int):ZjA (l.map mc) d=Xa ((keep d l).map mc,d):=by
 refine ZA ?_
 rw [ZmX]
 refine Yc (Zuo l (by omega) d) fun r hr=>?_
 obtain ⟨r1,r2⟩:=r
 obtain ⟨rfl,hr⟩:r2=d∧_:=hr
 refine Zb (fun hm=>?_) fun hm=>?_
 ·simp only [CQ] at hm
  rcases hr with ⟨_,hno⟩ | ⟨j,hj,_⟩
  ·have:keep r2 l=l:=by
    unfold keep
    rw [List.filter_eq_self]
    intro m hm
    simpa using hno m hm
   rw [this]
   exact Zd rfl
  ·have hj':r1=(j:Int):=hj
   omega
 ·simp only [CQ] at hm
  rcases hr with ⟨h1,_⟩ | ⟨j,hj,_,hjl,hjd,hjb⟩
  ·exact (hm h1).elim
  obtain rfl:r1=(j:Int):=hj
  have hk0:keep r2 (l.take j)=l.take j:=by
   unfold keep
   rw [List.filter_eq_self]
   intro m hm
   obtain ⟨i,hi,rfl⟩:=Uz hm
   rw [Xt] at hi
   rw [To]
   simpa using hjb i (by omega)
  have key:∀ (t i fuel:Nat) (cur:List Ms) (w:Nat),i+t=l.length→t < fuel→cur.length=l.length→cur.take w=keep r2 (l.take i)→cur.drop i=l.drop i→w=(keep r2 (l.take i)).length→
    Ret (fun r=>r=((keep r2 l).map mc,r2)) (ZaH fuel (cur.map mc) (w:Int) (i:Int) r2):=by
   intro t
   induction t with
   | zero =>
    intro i fuel cur w hi hf hc ht hdr hw
    obtain ⟨f,rfl⟩:∃ f,fuel=f+1:=⟨fuel-1,by omega⟩
    have hil:i=l.length:=by omega
    subst hil
    rw [XW] at ht hw
    have hkl:=J7 r2 l
    refine Ze (Zc5 ..) (Zb (fun hh=>?_) fun _=>?_)
    ·rw [Xi] at hh;simp only [CQ] at hh;omega
    ·refine Zc (by omega) (Zc (by rw [Xi];omega) (Zc (by omega) (Zc ?_ (Zd ?_))))
     ·rw [Xr,XQ,Xt,Xi];omega
     ·rw [XQ,UY (by rw [Xt,Xi];omega),List.take_take,Nat.min_self,← Ui,ht]
   | succ t ih =>
    intro i fuel cur w hi hf hc ht hdr hw
    obtain ⟨f,rfl⟩:∃ f,fuel=f+1:=⟨fuel-1,by omega⟩
    have hil:i < l.length:=by omega
    have hic:i < cur.length:=by omega
    have hkl:=J7 r2 (l.take i)
    rw [Xt] at hkl
    have hci:cur[i]=l[i]:=by
     have h1:=congrArg (·[0]?) hdr
     simp only [XI,Ug,Xq hic,Xq hil,Xf] at h1
     exact h1
    have hdr1:cur.drop (i+1)=l.drop (i+1):=by
     have:=congrArg (Uh 1) hdr
     rw [Ta,Ta] at this
     exact this
    refine Ze (Zc5 ..) (Zb (fun _=>?_) fun hh=>?_)
    ·refine Zc (by omega) (Zc (by rw [Xi];omega) (Ze (Jo hic _) (Za (ZpY ..) (Zb (fun h1=>?_) fun h1=>?_))))
     ·simp only [CQ,mv] at h1
      rw [hci] at h1
      have e1:([AV.val (.int .i64 (mv cur[i]).1),AV.val (.int .i64 (mv cur[i]).2.1),AV.slice Xc 1 (mv cur[i]).2.2.1,AV.val (.int .i64 (mv cur[i]).2.2.2)] : List AV)=mc cur[i]:=rfl
      refine Zc (by omega) (Zc (by rw [Xi];omega) (Zc (by omega) (Zc (by rw [Xi];omega) ?_)))
      rw [e1,XQ,Zrm cur w (by omega),Zaf (by omega),Zaf (by omega),hci]
      refine ih (i+1) f (cur.set w l[i]) (w+1) (by omega) (by omega) (by rw [Ud];exact hc) ?_ ?_ ?_
      ·rw [Y8 hil,if_neg h1,← ht,Um (by rw [Ud];omega),List.getElem_set_self,List.take_set_of_le (XA _)]
      ·rw [List.drop_set,if_pos (by omega)];exact hdr1
      ·rw [Y8 hil,if_neg h1,Xr,← hw];rfl
     ·simp only [CQ,mv] at h1
      rw [hci] at h1
      have h1:=Decidable.not_not.1 h1
      rw [Zaf (by omega)]
      exact ih (i+1) f cur w (by omega) (by omega) hc (by rw [Y8 hil,if_pos h1];exact ht) hdr1 (by rw [Y8 hil,if_pos h1];exact hw)
    ·rw [Xi] at hh;simp only [CQ] at hh;omega
  rw [Zaf (by omega)]
  refine key (l.length-(j+1)) (j+1) J6 l j (by omega) (by have:=ZiL (n:=l.length) (by omega);omega) rfl ?_ rfl ?_
  ·rw [Y8 hjl,if_pos hjd,hk0]
  ·rw [Y8 hjl,if_pos hjd,hk0,Xt];omega
def ZtN (d:Int) (e:Ep):Ep:={ e with q:=keep d e.q,s:=keep d e.s }
def left (d:Int) (es:List Ep):List Ep:=(es.filter fun e=>decide (e.v≠d)).map (ZtN d)
def Zho (d:Int) (es:List Ep):List (Int×Int):=(es.filter fun e=>decide (e.v=d)).flatMap fun e=>outs (keep d e.s++keep d e.q)
theorem ZaD {d:Int} {es:List Ep} {j:Nat} (h:j < es.length):left d (es.take (j+1))=if es[j].v=d then left d (es.take j) else left d (es.take j)++[ZtN d es[j]]:=by
 unfold left
 rw [Um h,U0,XJ]
 by_cases h0:es[j].v=d
 ·rw [if_pos h0];simp [h0]
 ·rw [if_neg h0];simp [h0]
theorem Vc {d:Int} {es:List Ep} {j:Nat} (h:j < es.length):Zho d (es.take (j+1))=if es[j].v=d then Zho d (es.take j)++outs (keep d es[j].s++keep d es[j].q) else Zho d (es.take j):=by
 unfold Zho
 rw [Um h,U0,U8]
 by_cases h0:es[j].v=d
 ·rw [if_pos h0];simp [h0]
 ·rw [if_neg h0];simp [h0]
theorem ZeP (d:Int) (es:List Ep):(left d es).length≤es.length:=by
 unfold left
 rw [Xi]
 exact TJ _ _
def el (e:Ep):List AV:=[I e.o,I e.v,.nest 4 Xc 41 [],.nest 4 Xc 41 []]
def gon (es:List Ep) (i:Nat):LL:=(es.take i).map el++(es.drop i).map en
theorem ZpR {es:List Ep} {i:Nat} (h:i < es.length):(gon es i)[i]? = Xa (en es[i]):=by
 unfold gon
 rw [XB (by simp;omega)]
 have:i-((es.take i).map el).length=0:=by simp;omega
 rw [this,Xl,XI,Ug,Xq h]
 rfl
theorem ZmB (es:List Ep) (i:Nat):(gon es i).length=es.length:=by
 simp only [gon,Xr,Xi,Xt,XV];omega
theorem ZiG {es:List Ep} {i:Nat} (h:i < es.length):Zqm (gon es i) i=gon es (i+1):=by
 have h1:((es.take i).map el).length=i:=by simp;omega
 have:Zqm (gon es i) i=(gon es i).set i (el es[i]):=Jt (ZpR h)
 rw [this]
 unfold gon
 rw [TE _ _ (by omega),h1,U3,TF h,Xk,List.set_cons_zero,Um h,XJ,Xw]
 rfl
theorem s32 (n:Int) (es:List Ep) (h:Vld n es) (d:Int) (hd0:0≤d) (hd1:d < 32):g32 n (es.map ec) d=Xa (n,(left d es).map ec,(Zho d es).map oc,0):=by
 refine ZA ?_
 have hlen:=h.len
 rw [Zle]
 refine Za (s22 n es h) (Zb (fun h=>by cases h) fun _=>Za (s38 d hd0 hd1) (Zb (fun h=>by cases h) fun _=>Za (s40 n es (by omega) h.few) ?_))
 have hdl:∀ i,i≤es.length→(Zho d (es.take i)).length≤i*808:=fun i=>by
  induction i with
  | zero => intro _; simp [Zho]
  | succ i ih =>
   intro hi
   have hok:=h.ok _ (Xy (show i < es.length by omega))
   have:=ih (by omega)
   rw [Vc (show i < es.length by omega)]
   split
   ·have h1:=Ve (keep d es[i].s++keep d es[i].q)
    have h2:=J7 d es[i].s
    have h3:=J7 d es[i].q
    have h4:=hok.ql
    have h5:=hok.sl
    rw [Xr] at h1
    rw [Xr]
    omega
   ·omega
 have h0:es.map en=gon es 0:=by simp [gon]
 rw [h0,show Xh (n,gon es 0).2=es.length from ZmB es 0]
 refine Zu (F:=fun k (s:LL×LL×LL) i=>ZlY k n s.1 d 0 E0 n s.2.1 s.2.2 (es.length:Int) i) es.length (fun i s=>s=(gon es i,(left d (es.take i)).map ec,(Zho d (es.take i)).map oc)) (by omega) (fun k i s hi hs next=>?_) (gon es 0,E0,E0) (by simp [left,Zho])
 subst hs
 refine Ze (ZoB ..) (Zb (fun hh=>?_) fun hh=>?_)
 ·simp only [CQ] at hh
  have hi':i < es.length:=by omega
  have hok:=h.ok _ (Xy hi')
  have hat:=ZpR hi'
  have hgl:=ZmB es i
  have r1:(0:Int)≤(i:Int):=UL i
  have hel:∀ (k:Int×Int×LL×LL→Option (Int×LL×LL×Int)),ZB (Zdx (JZ (gon es i) i 0 4) 0 4) (i:Int) [.int .i64,.int .i64,.slice 4,.slice 4] k=k (ev es[i]):=fun k=>JS (sh:=[.int .i64,.int .i64,.slice 4,.slice 4]) k r1 (cs:=ec es[i]) (by
   rw [XQ]
   have hz:JZ (gon es i) i 0 4=(gon es i).set i (ec es[i]):=Jt hat
   unfold Zdx
   rw [hz,Xl,Uy]
   simp [hgl,hi',ec]) rfl
  have hll:=ZeP d (es.take i)
  rw [Xt] at hll
  have hdi:=hdl i hi
  rw [XQ]
  refine Zc r1 (Zc (by rw [hgl];omega) (Zc (KP hat rfl) (Zc (KP hat rfl) (Ze (hel _) (Za (s59 es[i].q (by have:=hok.ql;omega) d) (Za (s59 es[i].s hok.sl d) (Zb (fun hv=>?_) fun hv=>?_)))))))
  ·simp only [CQ,ev] at hv
   have h2:=J7 d es[i].s
   have h3:=J7 d es[i].q
   have h4:=hok.ql
   have h5:=hok.sl
   have h6:=Ve (keep d es[i].s++keep d es[i].q)
   rw [Xr] at h6
   refine Za (s54 _ _ (keep d es[i].q) (keep d es[i].s) (by omega) (by omega)) (Zc (Wi (by rw [Xi,Xi];omega) (by decide)) ?_)
   rw [ZiG hi',Ji hi (by omega)]
   exact next hi' _ (by rw [ZaD hi',if_pos hv,Vc hi',if_pos hv,XJ])
  ·simp only [CQ,ev] at hv
   refine Zc (ZD (by simp;omega) (by decide)) ?_
   rw [ZiG hi',Ji hi (by omega)]
   exact next hi' _ (by rw [ZaD hi',if_neg hv,Vc hi',if_neg hv,XJ])
 ·simp only [CQ] at hh
  have:i=es.length:=by omega
  subst this
  rw [XW]
  exact Zd rfl
theorem s50 (o:Int) (h0:0≤o) (h1:o < 32):g50 o=Xa Xb:=by
 refine ZA ?_
 rw [Zqd]
 refine Zb (fun _=>Zd ?_) fun h=>?_
 ·simp only [CQ];exact h1
 ·simp only [CQ] at h;omega
theorem s53 (m:Ms) (h:KV m):g53 m.t m.c m.w m.s=Xa Xb:=by
 obtain ⟨h1,h2,h3,h4,h5,h6⟩:=h
 refine ZA ?_
 rw [Zqn]
 refine Zb (fun _=>Za (s50 m.c h2 h3) (Zb (fun _=>Zb (fun _=>Zb (fun _=>Zd ?_) fun h=>?_) fun h=>?_) fun h=>?_)) fun h=>?_
 ·simp only [CQ];exact h6
 ·simp only [CQ] at h;omega
 ·simp only [CQ] at h;omega
 ·exact (h rfl).elim
 ·simp only [CQ] at h;omega
def tkF (es:List Ep):List Int:=es.flatMap fun e=>tk (e.s++e.q)
theorem Zaa:∀ es:List Ep,(tkF es).Perm (tkE es)
 | [] => List.Perm.refl _
 | e :: es => by
  unfold tkF tkE
  rw [Tf,Tf,Zbq,Zbq]
  exact (TH).append (Zaa es)
theorem ZbP {es:List Ep} {j:Nat} (h:j < es.length):tkF (es.take (j+1))=tkF (es.take j)++tk (es[j].s++es[j].q):=by
 unfold tkF
 rw [Um h,U8]
 simp
theorem Zjy (l:List Ms):(tk l).length≤l.length:=by
 unfold tk
 exact XY (TJ _ _) (by simp)
theorem Zh7 {n:Int} {es:List Ep} (h:Vld n es):∀ i,i≤es.length→(tkF (es.take i)).length≤i*408
 | 0, _ => by simp [tkF]
 | i + 1, hi => by
  have:=Zh7 h i (by omega)
  have hok:=h.ok _ (Xy (show i < es.length by omega))
  rw [ZbP (show i < es.length by omega),Xr]
  have h1:=Zjy (es[i].s++es[i].q)
  rw [Xr] at h1
  have:=hok.ql
  have:=hok.sl
  omega
theorem s23 (n:Int) (es:List Ep) (h:Vld n es):g23 n (es.map ec)=Xa Xb:=by
 refine ZA ?_
 have hlen:=h.len
 have hn0:=h.n0
 have hn1:=h.n1
 rw [Zqa]
 refine Zb (fun hh=>?_) fun _=>Zb (fun hh=>?_) fun _=>Zb (fun hh=>?_) fun _=>?_
 ·simp only [CQ] at hh;omega
 ·simp only [CQ] at hh;omega
 ·simp only [CQ,Xi] at hh;omega
 have hnd:(tkF es).Nodup:=(List.Perm.nodup_iff (Zaa es)).2 h.nd
 have hfl:=Zh7 h es.length (XA _)
 rw [XW] at hfl
 -- the tokens are compared
 have last:Ret (fun r=>r=Xb) (Zlo J6 (Zn (tkF es)) 0):=by
  obtain ⟨K,hK⟩:∃ K,K=tkF es:=⟨_,rfl⟩
  rw [← hK] at hnd hfl ⊢
  have hKl:(Zn K).length=K.length:=by simp [Zn]
  refine KM (F:=fun k (_:Unit) i=>Zlo k (Zn K) i) (n:=K.length) (fun _ _=>True) (by omega) (fun k i _ hi _ next=>?_) (fun k _ _=>?_) () trivial
  ·refine Ze (ZbX ..) (Zb (fun _=>?_) fun hh=>?_)
   ·refine KM (F:=fun k' (_:Unit) j=>Zng (F23.lp [1,1,1,0,1,0] 0 r0 k) k' (Zn K) (i:Int) j) (n:=i) (fun _ _=>True) (by omega) (fun k' j _ hj _ nx=>?_) (fun k' _ _=>?_) () trivial
    ·refine Ze (ZbS ..) (Zb (fun _=>?_) fun hh=>?_)
     ·refine Ze (Kw hi _) (Ze (Kw (show j < K.length by omega) _) (Zb (fun he=>?_) fun _=>?_))
      ·simp only [CQ] at he
       have:=(List.nodup_iff_pairwise_ne.1 hnd)
       have:=UH.1 this j i (by omega) hi hj
       exact (this he.symm).elim
      ·rw [Zaf (by omega)]
       exact nx () trivial
     ·simp only [CQ] at hh;omega
    ·refine Ze (ZbS ..) (Zb (fun hh=>?_) fun _=>?_)
     ·simp only [CQ] at hh;omega
     ·rw [Zaf (by omega)]
      exact next () trivial
   ·rw [hKl] at hh;simp only [CQ] at hh;omega
  ·refine Ze (ZbX ..) (Zb (fun hh=>?_) fun _=>Zd rfl)
   rw [hKl] at hh;simp only [CQ] at hh;omega
 refine Zu (F:=fun k (s:LL) i=>ZpA k n (es.map ec) s i) es.length (fun i s=>s=Zn (tkF (es.take i))) (by omega) (fun k i s hi hs next=>?_) E0 rfl
 subst hs
 refine Ze (ZjB ..) (Zb (fun hh=>?_) fun hh=>?_)
 ·rw [Xi] at hh
  simp only [CQ] at hh
  have hi':i < es.length:=by omega
  have he:=h.ok _ (Xy hi')
  have e0:=he.o0
  have e1:=he.o1
  have e2:=he.ql
  have e3:=he.sl
  have hgl:=Zh7 h i (by omega)
  have hin:Ret (fun r=>r=Xb) ((g50 (ev es[i]).2.1).bind fun (r8:Bool)=>
    if (!r8)=Xb then Xa Xc else if (cop .gtr (Xh (ev es[i]).2.2.1:Int) 8)=Xb then Xa Xc else
    Zm (ZV E0 (ev es[i]).2.2.2 48)<|Zm (ZV (ev es[i]).2.2.2 (ev es[i]).2.2.1 48)<|
    WN (F23.lp [1,1,1,0] 0 r0 k) J6 n (es.map ec) (Zn (tkF (es.take i))) (i:Int) (ev es[i]).1 (ev es[i]).2.1 (ev es[i]).2.2.1 (ev es[i]).2.2.2 ((ev es[i]).2.2.2++(ev es[i]).2.2.1) 0):=by
   refine Za (s50 _ he.v0 he.v1) (Zb (fun h=>by cases h) fun _=>Zb (fun hq=>?_) fun _=>Zc (ZD (by show 0+(es[i].s.map mc).length≤_;rw [Xi];omega) (by decide)) (Zc (ZD (by show (es[i].s.map mc).length+(es[i].q.map mc).length≤_;rw [Xi,Xi];omega) (by decide)) ?_))
   ·simp only [CQ,ev,Xi] at hq;omega
   obtain ⟨l,hl⟩:∃ l,l=es[i].s++es[i].q:=⟨_,rfl⟩
   have hlm:(ev es[i]).2.2.2++(ev es[i]).2.2.1=l.map mc:=by rw [hl,XJ];rfl
   have hll:l.length=es[i].s.length+es[i].q.length:=by rw [hl,Xr]
   rw [hlm]
   refine Zu (F:=fun k' (s:LL) j=>WN (F23.lp [1,1,1,0] 0 r0 k) k' n (es.map ec) s (i:Int) (ev es[i]).1 (ev es[i]).2.1 (ev es[i]).2.2.1 (ev es[i]).2.2.2 (l.map mc) j) l.length (fun j s=>s=Zn (tkF (es.take i)++tk (l.take j))) (by omega) (fun k' j s hj hs nx=>?_) _ (by simp [tk])
   subst hs
   refine Ze (ZiB ..) (Zb (fun hh=>?_) fun hh=>?_)
   ·rw [Xi] at hh
    simp only [CQ] at hh
    have hj':j < l.length:=by omega
    have hmo:KV l[j]:=by
     have hm:l[j]∈es[i].s++es[i].q:=hl ▸ Xy hj'
     rcases Xs.1 hm with hm | hm
     ·exact (he.sm _ hm).1
     ·exact he.qm _ hm
    have hm0:=hmo.1
    have hle:l[j].t≤n:=by
     by_cases h0:l[j].t=0
     ·omega
     ·refine h.le _ ((Zaa es).mem_iff.1 ?_)
      unfold tkF
      rw [List.mem_flatMap]
      refine ⟨es[i],Xy hi',?_⟩
      rw [← hl]
      unfold tk
      rw [U4]
      exact ⟨Xm.2 ⟨_,Xy hj',rfl⟩,by simp [h0]⟩
    have htl:=Zjy (l.take j)
    rw [Xt] at htl
    have more:Ret (fun r=>r=Xb) (if (cop .gtr (mv l[j]).1 0)=Xb then
      Zm (ZV (Zn (tkF (es.take i)++tk (l.take j))) (E0++[[AV.val (.int .i64 (mv l[j]).1)]]) 8)<|
      WN (F23.lp [1,1,1,0] 0 r0 k) k' n (es.map ec) (Zn (tkF (es.take i)++tk (l.take j))++(E0++[[AV.val (.int .i64 (mv l[j]).1)]])) (i:Int) (ev es[i]).1 (ev es[i]).2.1 (ev es[i]).2.2.1 (ev es[i]).2.2.2 (l.map mc) (iop .add .i64 (j:Int) 1)
      else WN (F23.lp [1,1,1,0] 0 r0 k) k' n (es.map ec) (Zn (tkF (es.take i)++tk (l.take j))) (i:Int) (ev es[i]).1 (ev es[i]).2.1 (ev es[i]).2.2.1 (ev es[i]).2.2.2 (l.map mc) (iop .add .i64 (j:Int) 1)):=by
     refine Zb (fun ht=>Zc (Wi (by simp [Zn];omega) (by decide)) ?_) fun ht=>?_
     ·simp only [CQ,mv] at ht
      rw [Ji hj (by omega)]
      refine nx hj' _ ?_
      have hap:∀ (A:List Int) (t:Int),Zn (A++[t])=Zn A++[ZrQ t]:=fun A t=>by unfold Zn;rw [XJ];rfl
      rw [YQ hj',if_neg (by omega),← Xw (tkF (es.take i)) (tk (l.take j)) [l[j].t],hap]
      rfl
     ·simp only [CQ,mv] at ht
      rw [Ji hj (by omega)]
      exact nx hj' _ (by rw [YQ hj',if_pos (by omega)])
    refine Ze (Jo hj' _) (Za (s53 _ hmo) (Zb (fun h=>by cases h) fun _=>Zb (fun hg=>?_) fun _=>Zb (fun hs=>Zb (fun h0=>?_) fun _=>more) fun _=>more))
    ·simp only [CQ,mv] at hg;omega
    ·simp only [CQ,mv,ev,Xi] at hs h0
     have hjs:j < es[i].s.length:=by omega
     have:l[j]=es[i].s[j]:=by simp only [hl];exact List.getElem_append_left hjs
     rw [this] at h0
     exact ((he.sm _ (Xy hjs)).2 h0).elim
   ·rw [Xi] at hh
    simp only [CQ] at hh
    have:j=l.length:=by omega
    subst this
    rw [XW,Ji hi (by omega),hl,← ZbP hi']
    exact next hi' _ rfl
  refine Ze (ZX hi' _) (Zb (fun hg=>?_) fun _=>Zb (fun hg=>?_) fun _=>Zb (fun hp=>?_) fun _=>hin)
  ·simp only [CQ,ev] at hg;omega
  ·simp only [CQ,ev] at hg;omega
  ·simp only [CQ] at hp
   obtain ⟨j,rfl⟩:∃ j,i=j+1:=⟨i-1,by omega⟩
   have hs:iop .sub .i64 ((j+1:Nat):Int) 1=(j:Int):=by rw [ZhN (by omega) (by omega)];omega
   rw [hs]
   have hj:j < es.length:=by omega
   refine Ze (ZX hj _) (Zb (fun hg=>?_) fun _=>hin)
   simp only [CQ,ev] at hg
   have:=UH.1 h.ord j (j+1) hj hi' (by omega)
   omega
 ·rw [Xi] at hh
  simp only [CQ] at hh
  have:i=es.length:=by omega
  subst this
  rw [XW]
  exact last
def wt (c:Int) (l:List Ms):List Int:=(l.filter fun m=>decide (m.c=c∧0 < m.t)).map Ms.t
def wtE (c:Int) (es:List Ep):List Int:=es.flatMap fun e=>wt c (e.q++e.s)
theorem Za6 {c:Int} {l:List Ms} {j:Nat} (h:j < l.length):wt c (l.take (j+1))=if l[j].c=c∧0 < l[j].t then wt c (l.take j)++[l[j].t] else wt c (l.take j):=by
 unfold wt
 rw [Um h,U0,XJ]
 by_cases h0:l[j].c=c∧0 < l[j].t
 ·rw [if_pos h0];simp [h0]
 ·rw [if_neg h0];simp [h0]
theorem ZiP (c:Int) (l:List Ms):(wt c l).length≤l.length:=by
 unfold wt
 rw [Xi]
 exact TJ _ _
theorem Zjh {c:Int} {es:List Ep} {j:Nat} (h:j < es.length):wtE c (es.take (j+1))=wtE c (es.take j)++wt c (es[j].q++es[j].s):=by
 unfold wtE
 rw [Um h,U8]
 simp
theorem Zfq {n:Int} {es:List Ep} (h:Vld n es) (c:Int):∀ i,i≤es.length→(wtE c (es.take i)).length≤i*408
 | 0, _ => by simp [wtE]
 | i + 1, hi => by
  have:=Zfq h c i (by omega)
  have hok:=h.ok _ (Xy (show i < es.length by omega))
  rw [Zjh (show i < es.length by omega),Xr]
  have h1:=ZiP c (es[i].q++es[i].s)
  rw [Xr] at h1
  have:=hok.ql
  have:=hok.sl
  omega
def ZnD (l:List Int):List Int:=l.mergeSort fun a b=>decide (a≤b)
theorem Ztz (A:List Int) (t:Int):Zn (A++[t])=Zn A++[ZrQ t]:=by unfold Zn;rw [XJ];rfl
theorem s16 (n:Int) (es:List Ep) (h:Vld n es) (c:Int):g16 n (es.map ec) c=Xa (Zn (ZnD (wtE c es))):=by
 refine ZA ?_
 have hlen:=h.len
 rw [Zqk]
 refine Za (s22 n es h) (Zb (fun h=>by cases h) fun _=>?_)
 rw [Xi]
 refine Zu (F:=fun k (s:LL) i=>Zrl k c s (es.map ec) (es.length:Int) i) es.length (fun i s=>s=Zn (wtE c (es.take i))) (by omega) (fun k i s hi hs next=>?_) E0 rfl
 subst hs
 refine Ze (Zor ..) (Zb (fun hh=>?_) fun hh=>?_)
 ·simp only [CQ] at hh
  have hi':i < es.length:=by omega
  have he:=h.ok _ (Xy hi')
  have e2:=he.ql
  have e3:=he.sl
  have hgl:=Zfq h c i (by omega)
  refine Ze (ZX hi' _) (Za (s44 es[i].q es[i].s (by omega) he.sl) ?_)
  obtain ⟨l,hl⟩:∃ l,l=es[i].q++es[i].s:=⟨_,rfl⟩
  have hll:l.length=es[i].q.length+es[i].s.length:=by rw [hl,Xr]
  rw [← hl,Xi]
  refine Zu (F:=fun k' (s:LL) j=>ZkI (F16.lp [0,1,0] 0 r0 k) k' c s (es.map ec) (es.length:Int) (i:Int) (l.map mc) (l.length:Int) j) l.length (fun j s=>s=Zn (wtE c (es.take i)++wt c (l.take j))) (by omega) (fun k' j s hj hs nx=>?_) _ (by simp [wt])
  subst hs
  refine Ze (Zpt ..) (Zb (fun hh=>?_) fun hh=>?_)
  ·simp only [CQ] at hh
   have hj':j < l.length:=by omega
   have htl:=ZiP c (l.take j)
   rw [Xt] at htl
   refine Zc (by omega) (Zc (by rw [Xi];omega) (Ze (Jo hj' _) (Zb (fun hc=>Zb (fun ht=>Zc (Wi (by simp [Zn];omega) (by decide)) ?_) fun ht=>?_) fun hc=>?_)))
   ·simp only [CQ,mv] at hc ht
    rw [Ji hj (by omega)]
    refine nx hj' _ ?_
    rw [Za6 hj',if_pos ⟨hc,ht⟩,← Xw (wtE c (es.take i)) (wt c (l.take j)) [l[j].t],Ztz]
    rfl
   ·simp only [CQ,mv] at hc ht
    rw [Ji hj (by omega)]
    exact nx hj' _ (by rw [Za6 hj',if_neg (by omega)])
   ·simp only [CQ,mv] at hc
    rw [Ji hj (by omega)]
    exact nx hj' _ (by rw [Za6 hj',if_neg (fun h=>hc h.1)])
  ·simp only [CQ] at hh
   have:j=l.length:=by omega
   subst this
   rw [XW,Ji hi (by omega),hl,← Zjh hi']
   exact next hi' _ rfl
 ·simp only [CQ] at hh
  have:i=es.length:=by omega
  subst this
  rw [XW]
  have hgl:=Zfq h c es.length (XA _)
  rw [XW] at hgl
  refine Zc ?_ (Zd ?_)
  ·show ((Zn (wtE c es)).all ZgY&&decide ((Zn (wtE c es)).length≤1048576))=Xb
   rw [Bool.and_eq_true,decide_eq_true_eq,XC]
   refine ⟨fun r hr=>?_,by simp [Zn];omega⟩
   obtain ⟨z,_,rfl⟩:=Xm.1 hr
   rfl
  ·exact Zey (wtE c es)
theorem Zug (ms:List Ms) (hl:ms.length < 1000) (t:Int) (h:∀ m∈ms,m.t≠t):ZiS (ms.map mc) t=Xa (-1,t):=by
 refine ZA ?_
 rw [Zg5,Xi]
 refine Zu (F:=fun k (_:Unit) i=>ZaA k (ms.map mc) (ms.length:Int) i t) ms.length (fun _ _=>True) hl (fun k i _ hi _ next=>?_) () trivial
 refine Ze (Zdy ..) (Zb (fun hh=>?_) fun _=>Zd rfl)
 simp only [CQ] at hh
 have hi':i < ms.length:=by omega
 refine Ze (Jo hi' _) (Za (ZpU ..) (Zb (fun h1=>?_) fun _=>?_))
 ·simp only [CQ,mv] at h1
  exact (h _ (Xy hi') h1).elim
 ·rw [Ji hi hl]
  exact next hi' () trivial
theorem ZuO (ms:List Ms) (hl:ms.length < 1000) (t:Int) (j:Nat) (hj:j < ms.length) (h1:ms[j].t=t) (h:∀ (i:Nat) (hi:i < j),ms[i].t≠t):ZiS (ms.map mc) t=Xa ((j:Int),t):=by
 refine ZA ?_
 rw [Zg5,Xi]
 refine Zu (F:=fun k (_:Unit) i=>ZaA k (ms.map mc) (ms.length:Int) i t) ms.length (fun i _=>i≤j) hl (fun k i _ hi hle next=>?_) () (XZ _)
 refine Ze (Zdy ..) (Zb (fun hh=>?_) fun hh=>?_)
 ·have hi':i < ms.length:=by omega
  refine Ze (Jo hi' _) (Za (ZpU ..) (Zb (fun h2=>?_) fun h2=>?_))
  ·simp only [CQ,mv] at h2
   have:i=j:=by
    by_cases hij:i < j
    ·exact (h i hij h2).elim
    ·omega
   subst this
   exact Zd rfl
  ·simp only [CQ,mv] at h2
   rw [Ji hi hl]
   refine next hi' () ?_
   by_cases hij:i=j
   ·subst hij;exact (h2 h1).elim
   ·omega
 ·simp only [CQ] at hh;omega
theorem ZuM (n:Int) (es:List Ep) (h:Vld n es) (t v:Int) (w:LL) (hw:w.length≤8) (hno:∀ e∈es,∀ m∈e.s,m.t≠t):g17 n (es.map ec) t v w=Xa (0,E0,0,0,0,E0,17):=by
 refine ZA ?_
 have hlen:=h.len
 rw [ZiW]
 refine Za (s22 n es h) (Zb (fun h=>by cases h) fun _=>Zb (fun h8=>?_) fun _=>?_)
 ·simp only [CQ] at h8;omega
 rw [Xi]
 refine Zu (F:=fun k (_:Unit) i=>ZmG k v w n (es.map ec) t 0 E0 0 0 0 E0 (es.map ec) (es.length:Int) i) es.length (fun _ _=>True) (by omega) (fun k i _ hi _ next=>?_) () trivial
 refine Ze (Zi4 ..) (Zb (fun hh=>?_) fun _=>Zd rfl)
 simp only [CQ] at hh
 have hi':i < es.length:=by omega
 have he:=h.ok _ (Xy hi')
 refine Ze (ZX hi' _) (Za (Zug es[i].s (by have:=he.sl;omega) t (hno _ (Xy hi'))) (Zb (fun _=>?_) fun h1=>(h1 rfl).elim))
 rw [Ji hi (by omega)]
 exact next hi' () trivial
theorem Zrc (l:List Ms) (j:Nat) (hj:j < l.length) (hl:l.length < 1000):g48 (l.map mc) (j:Int) (iop .add .i64 (j:Int) 1)=Xa ((l.take j++l.drop (j+1)).map mc):=by
 rw [Zso,Zaf (by omega)]
 unfold Zsm
 rw [JX (by omega),JX (by omega),JX (by rw [Xi];omega),XQ,XQ]
 simp [Ui,Ut]
theorem Zt1 (n:Int) (es:List Ep) (h:Vld n es) (t v:Int) (w:LL) (hw:w.length≤8) (k j:Nat) (hk:k < es.length) (hj:j < es[k].s.length) (ht:es[k].s[j].t=t) (hb:∀ (i:Nat) (hi:i < j),es[k].s[i].t≠t)
  (hno:∀ (i:Nat) (hi:i < k),∀ m∈es[i].s,m.t≠t) :
  Ret (fun r=>(es[k].v≠v→r=(0,E0,0,0,0,E0,8))∧(es[k].v=v→r=(n,(es.set k { es[k] with s:=es[k].s.take j++es[k].s.drop (j+1) }).map ec,t,es[k].s[j].c,0,w,0))) (g17 n (es.map ec) t v w):=by
 have hlen:=h.len
 rw [ZiW]
 refine Za (s22 n es h) (Zb (fun h=>by cases h) fun _=>Zb (fun h8=>?_) fun _=>?_)
 ·simp only [CQ] at h8;omega
 rw [Xi]
 refine Zu (F:=fun k (_:Unit) i=>ZmG k v w n (es.map ec) t 0 E0 0 0 0 E0 (es.map ec) (es.length:Int) i) es.length (fun i _=>i≤k) (by omega) (fun f i _ hi hik next=>?_) () (XZ _)
 refine Ze (Zi4 ..) (Zb (fun hh=>?_) fun hh=>?_)
 ·have hi':i < es.length:=by omega
  have he:=h.ok _ (Xy hi')
  by_cases hlt:i < k
  ·refine Ze (ZX hi' _) (Za (Zug es[i].s (by have:=he.sl;omega) t (hno i hlt)) (Zb (fun _=>?_) fun h1=>(h1 rfl).elim))
   rw [Ji hi (by omega)]
   exact next hi' () (by omega)
  ·have hie:i=k:=by omega
   subst hie
   refine Ze (ZX hi' _) (Za (ZuO es[i].s (by have:=he.sl;omega) t j hj ht hb) (Zb (fun h1=>?_) fun _=>Zb (fun h1=>?_) fun h1=>?_))
   ·simp only [CQ] at h1;omega
   ·simp only [CQ,ev] at h1
    exact Zd ⟨fun _=>rfl,fun h=>(h1 h).elim⟩
   ·simp only [CQ,ev] at h1
    have hat:=ZhD hi'
    have hlk:i < (es.map en).length:=by simpa using hi'
    have r1:(0:Int)≤(i:Int):=UL i
    have r2:(i:Int) < (Xh (es.map en):Int):=by omega
    have hg:Yi (es.map en) i 3=es[i].s.map mc:=by
     unfold Yi
     rw [hat]
     rfl
    have hp1:Jj (es.map en) i 3 (AV.nest 4 Xc 41 E0)=(es.map en).set i [I es[i].o,I es[i].v,.nest 4 Xb 41 (es[i].q.map mc),.nest 4 Xc 41 []]:=Jt hat
    have hp2:Jj ((es.map en).set i [I es[i].o,I es[i].v,.nest 4 Xb 41 (es[i].q.map mc),.nest 4 Xc 41 []]) i 3 (AV.nest 4 Xb 41 ((es[i].s.take j++es[i].s.drop (j+1)).map mc)) =
      (es.map en).set i (en { es[i] with s:=es[i].s.take j++es[i].s.drop (j+1) }):=by
     have:Jj ((es.map en).set i [I es[i].o,I es[i].v,.nest 4 Xb 41 (es[i].q.map mc),.nest 4 Xc 41 []]) i 3 (AV.nest 4 Xb 41 ((es[i].s.take j++es[i].s.drop (j+1)).map mc))=((es.map en).set i _).set i (en { es[i] with s:=es[i].s.take j++es[i].s.drop (j+1) }):=Jt (YO hlk)
     rw [this,UU]
    refine Za (s40 n es (by omega) h.few) ?_
    rw [XQ,hg,hp1,Ud]
    refine Zc r1 (Zc r2 (Zc r1 (Zc (KP hat rfl) (Za (Zrc _ j hj (by have:=he.sl;omega)) (Zc r1 (Zc r2 (Zc r1 (Zc r2 ?_))))))))
    rw [hp2,V3 es i { es[i] with s:=es[i].s.take j++es[i].s.drop (j+1) } rfl]
    refine Ze (Jo hj _) (Za (s43 w (by omega)) (Zd ?_))
    exact ⟨fun h=>(h (by simpa using h1)).elim,fun _=>rfl⟩
 ·simp only [CQ] at hh;omega
theorem ZuA (n:Int) (es:List Ep) (h:Vld n es) (t v:Int) (w:LL) (hw:w.length≤8) (k j:Nat) (hk:k < es.length) (hj:j < es[k].s.length) (ht:es[k].s[j].t=t) (hb:∀ (i:Nat) (hi:i < j),es[k].s[i].t≠t)
  (hno:∀ (i:Nat) (hi:i < k),∀ m∈es[i].s,m.t≠t) (hv:es[k].v≠v):g17 n (es.map ec) t v w=Xa (0,E0,0,0,0,E0,8):=by
 obtain ⟨r,e,h1,_⟩:=Zt1 n es h t v w hw k j hk hj ht hb hno
 rw [e,h1 hv]
theorem Zvg (n:Int) (es:List Ep) (h:Vld n es) (t v:Int) (w:LL) (hw:w.length≤8) (k j:Nat) (hk:k < es.length) (hj:j < es[k].s.length) (ht:es[k].s[j].t=t) (hb:∀ (i:Nat) (hi:i < j),es[k].s[i].t≠t)
  (hno:∀ (i:Nat) (hi:i < k),∀ m∈es[i].s,m.t≠t) (hv:es[k].v=v):g17 n (es.map ec) t v w=Xa (n,(es.set k { es[k] with s:=es[k].s.take j++es[k].s.drop (j+1) }).map ec,t,es[k].s[j].c,0,w,0):=by
 obtain ⟨r,e,_,h1⟩:=Zt1 n es h t v w hw k j hk hj ht hb hno
 rw [e,h1 hv]
theorem ZuP (n:Int) (es:List Ep) (h:Vld n es) (k:Nat) (hk:k < es.length) (v:Int) (hv:es[k].v≠v) :
  g14 n (es.map ec) es[k].o v=Xa (0,E0,0,0,E0,0,8):=by
 refine ZA ?_
 have hlen:=h.len
 rw [Zhf]
 refine Za (s22 n es h) (Zb (fun h=>by cases h) fun _=>Za (s39 n es (by omega) h.ord) (Zc rfl ?_))
 refine Ze (Yp (WB hk h.ord) _) (Zb (fun h=>by cases h) fun _=>Ze (ZX hk _) (Zb (fun h8=>Zd rfl) fun h8=>?_))
 simp only [CQ,ev] at h8;exact (h8 hv).elim
theorem ZuE (n:Int) (es:List Ep) (h:Vld n es) (k:Nat) (hk:k < es.length) (w:LL) (s:Int) (hm:KV ⟨0,es[k].v,w,s⟩) (hq:es[k].q.length < 8) :
  g12 n (es.map ec) es[k].o es[k].v w s=Xa (0,E0,0,4):=by
 refine ZA ?_
 rw [ZcY]
 refine Yc (Q:=fun r=>r=(0,E0,4)) ?_ fun r hr=>Zd (by rw [hr])
 rw [Zaz]
 have hlen:=h.len
 refine Za (s22 n es h) (Zb (fun h=>by cases h) fun _=>Za (s69 ⟨0,es[k].v,w,s⟩ hm) (Zb (fun h=>by cases h) fun _=>Za (s39 n es (by omega) h.ord) (Zc rfl ?_)))
 refine Ze (Yp (WB hk h.ord) _) (Zb (fun h=>by cases h) fun _=>Ze (ZX hk _) (Zb (fun h8=>?_) fun _=>Zb (fun _=>?_) fun h=>(h rfl).elim))
 ·simp only [CQ,ev,Xi] at h8;omega
 refine Ze (ZX hk _) (Zb (fun hb=>Zd rfl) fun hb=>?_)
 exact (hb (by simp only [CQ,ev])).elim
theorem ZuZ (n:Int) (es:List Ep) (h:Vld n es) (o v:Int) (hno:∀ e∈es,e.o≠o):g14 n (es.map ec) o v=Xa (0,E0,0,0,E0,0,17):=by
 refine ZA ?_
 have hlen:=h.len
 rw [Zhf]
 refine Za (s22 n es h) (Zb (fun h=>by cases h) fun _=>Za (s39 n es (by omega) h.ord) (Zc rfl ?_))
 exact Ze (Yp (Zaw hno) _) (Zb (fun _=>Zd rfl) fun h=>(h rfl).elim)
theorem Zvo (n:Int) (es:List Ep) (h:Vld n es) (k:Nat) (hk:k < es.length) (hq:es[k].q = []) :
  g14 n (es.map ec) es[k].o es[k].v=Xa (0,E0,0,0,E0,0,2):=by
 refine ZA ?_
 have hlen:=h.len
 rw [Zhf]
 refine Za (s22 n es h) (Zb (fun h=>by cases h) fun _=>Za (s39 n es (by omega) h.ord) (Zc rfl ?_))
 refine Ze (Yp (WB hk h.ord) _) (Zb (fun h=>by cases h) fun _=>Ze (ZX hk _) (Zb (fun h8=>?_) fun _=>Ze (ZX hk _) (Zb (fun h8=>Zd rfl) fun h8=>?_)))
 ·simp only [CQ,ev] at h8;exact (h8 rfl).elim
 ·simp only [CQ,ev,Xi,hq,List.length_nil] at h8;exact (h8 rfl).elim
theorem ZtU (n:Int) (es:List Ep) (h:Vld n es) (o c:Int) (w:LL) (s:Int) (b:Bool) (hm:KV ⟨0,c,w,s⟩) (hno:∀ e∈es,e.o≠o):g42 n (es.map ec) o 0 c w s b=Xa (0,E0,17):=by
 refine ZA ?_
 rw [Zaz]
 have hlen:=h.len
 refine Za (s22 n es h) (Zb (fun h=>by cases h) fun _=>Za (s69 ⟨0,c,w,s⟩ hm) (Zb (fun h=>by cases h) fun _=>Za (s39 n es (by omega) h.ord) (Zc rfl ?_)))
 exact Ze (Yp (Zaw hno) _) (Zb (fun _=>Zd rfl) fun h=>(h rfl).elim)
theorem Zvf (n:Int) (es:List Ep) (h:Vld n es) (o c:Int) (w:LL) (s:Int) (hm:KV ⟨0,c,w,s⟩) (hno:∀ e∈es,e.o≠o):g13 n (es.map ec) o c w s=Xa (0,E0,17):=by
 rw [Zgr,ZtU n es h o c w s Xc hm hno];rfl
theorem Zu6 (n:Int) (es:List Ep) (h:Vld n es) (o c:Int) (w:LL) (s:Int) (hm:KV ⟨0,c,w,s⟩) (hno:∀ e∈es,e.o≠o):g12 n (es.map ec) o c w s=Xa (0,E0,0,17):=by
 rw [ZcY,ZtU n es h o c w s Xb hm hno];rfl
theorem s9d (n:Int) (es:List Ep) (h:Vld n es) (v:Int) (k:Nat) (hk:k < es.length) (h3:0≤v) (h4:v < 32):g9 n (es.map ec) es[k].o v=Xa (0,E0,56):=by
 refine ZA ?_
 have hlen:=h.len
 have hok:=h.ok _ (Xy hk)
 rw [ZkG]
 refine Za (s22 n es h) (Zb (fun h=>by cases h) fun _=>Za (s37 _ hok.o0 hok.o1) (Zb (fun h=>by cases h) fun _=>Za (s38 v h3 h4) (Zb (fun h=>by cases h) fun _=>Za (s39 n es (by omega) h.ord) (Zc rfl ?_))))
 exact Ze (Yp (WB hk h.ord) _) (Zb (fun _=>Zd rfl) fun h=>(h rfl).elim)
def Zbg (o v:Int) (es:List Ep) (k:Nat):List Ep:=es.take k++⟨o,v,[],[]⟩ :: es.drop k
theorem s9g (n:Int) (es:List Ep) (h:Vld n es) (o v:Int) (h1:0≤o) (h2:o≤1099511627775) (h3:0≤v) (h4:v < 32) (hno:∀ e∈es,e.o≠o) (hl:es.length < 32) :
  ∃ k,k≤es.length∧(∀ (j:Nat) (hj:j < es.length),j < k→es[j].o < o)∧(∀ (j:Nat) (hj:j < es.length),k≤j→o < es[j].o)∧g9 n (es.map ec) o v=Xa (n,(Zbg o v es k).map ec,0):=by
 have key:Ret (fun r=>∃ k,k≤es.length∧(∀ (j:Nat) (hj:j < es.length),j < k→es[j].o < o)∧(∀ (j:Nat) (hj:j < es.length),k≤j→o < es[j].o)∧r=(n,(Zbg o v es k).map ec,0)) (g9 n (es.map ec) o v):=by
  rw [ZkG]
  refine Za (s22 n es h) (Zb (fun h=>by cases h) fun _=>Za (s37 o h1 h2) (Zb (fun h=>by cases h) fun _=>Za (s38 v h3 h4) (Zb (fun h=>by cases h) fun _=>Za (s39 n es (by omega) h.ord) (Zc rfl ?_))))
  refine Ze (Yp (Zaw hno) _) (Zb (fun h=>by cases h) fun _=>Zb (fun hl2=>?_) fun _=>?_)
  ·simp only [CQ,Xi] at hl2;omega
  have hins:∀ i,i≤es.length→g41 (Yl (n,es.map en).2) (i:Int) (E0++[[AV.val (.int .i64 o),AV.val (.int .i64 v),AV.slice Xc 4 E0,AV.slice Xc 4 E0]])=Xa ((Zbg o v es i).map ec):=fun i hi=>by
   rw [show Yl (n,es.map en).2=es.map ec from Zcz es,Zsg]
   unfold ZtH
   rw [JX (by omega),JX (by rw [Xi];omega),JX (by simp),JX (ZD (by simp;omega) (by decide)),XQ]
   simp [Zbg,Ui,Ut,ec]
  refine Zu (F:=fun k (_:Unit) i=>Zs2 k o v n (es.map ec) 0 E0 i) es.length (fun i _=>∀ (j:Nat) (hj:j < es.length),j < i→es[j].o < o) (by omega) (fun f i _ hi hs next=>?_) () (fun j hj hj0=>by omega)
  refine Ze (Zrh ..) (Zb (fun hh=>?_) fun hh=>?_)
  ·rw [Xi] at hh
   simp only [CQ] at hh
   have hi':i < es.length:=by omega
   refine Ze (ZX hi' _) (Zb (fun hlt=>?_) fun hge=>?_)
   ·simp only [CQ,ev] at hlt
    rw [Ji hi (by omega)]
    refine next hi' () fun j hj hji=>?_
    by_cases hje:j=i
    ·subst hje;exact hlt
    ·exact hs j hj (by omega)
   ·simp only [CQ,ev] at hge
    have hne:=hno _ (Xy hi')
    refine Za (s40 n es (by omega) h.few) (Za (hins i hi) (Zd ⟨i,hi,hs,fun j hj hij=>?_,rfl⟩))
    by_cases hje:i=j
    ·subst hje;omega
    ·have:=UH.1 h.ord i j hi' hj (by omega)
     omega
  ·rw [Xi] at hh
   simp only [CQ] at hh
   have:i=es.length:=by omega
   subst this
   exact Za (s40 n es (by omega) h.few) (Za (hins _ hi) (Zd ⟨_,hi,hs,fun j hj hij=>by omega,rfl⟩))
 obtain ⟨r,e,k,k1,k2,k3,rfl⟩:=key
 exact ⟨k,k1,k2,k3,e⟩
theorem Zp8 {a b:List Ms} (h:a.Sublist b):(tk a).Sublist (tk b):=by
 unfold tk
 exact (h.map Ms.t).filter _
theorem ZeV {n:Int} {es es':List Ep} (h:Vld n es) (hl:es'.length≤32) (hok:∀ e∈es',Zlk e) (ho:es'.Pairwise fun a b=>a.o < b.o) (ht:(tkE es').Sublist (tkE es)):Vld n es':=
 ⟨h.n0,h.n1,hl,hok,ho,h.nd.sublist ht,fun t htm=>h.le t (ht.subset htm)⟩
theorem Za7 (a b:List Ep):tkE (a++b)=tkE a++tkE b:=by
 unfold tkE;rw [U8]
theorem Vp (e:Ep) (es:List Ep):tkE (e::es)=tk (e.q++e.s)++tkE es:=by
 unfold tkE;rw [Tf]
theorem Zir {n:Int} {es:List Ep} (h:Vld n es) {k:Nat} (hk:k < es.length):Vld n (es.take k++es.drop (k+1)):=by
 have hs:(es.take k++es.drop (k+1)).Sublist es:=by
  conv=>rhs;rw [Wb hk]
  exact (List.Sublist.refl _).append (List.sublist_cons_self _ _)
 have hlen:=h.len
 refine ZeV h (XY hs.length_le hlen) (fun e he=>h.ok e (hs.subset he)) (h.ord.sublist hs) ?_
 have h2:tkE es=tkE (es.take k)++(tk (es[k].q++es[k].s)++tkE (es.drop (k+1))):=by
  have:=congrArg tkE (Wb hk)
  rw [Za7,Vp] at this
  exact this
 rw [h2,Za7]
 exact (List.Sublist.refl _).append (List.sublist_append_right _ _)
theorem Zoc {n:Int} {es:List Ep} (h:Vld n es) {k:Nat} (hk:k < es.length) {e:Ep} (he:Zlk e) (ho:e.o=es[k].o) (ht:(tk (e.q++e.s)).Sublist (tk (es[k].q++es[k].s))):Vld n (es.set k e):=by
 refine ZeV h (by rw [Ud];exact h.len) (fun x hx=>?_) ?_ ?_
 ·rcases Ue hx with hx | rfl
  ·exact h.ok x hx
  ·exact he
 ·have hm:(es.set k e).map Ep.o=es.map Ep.o:=by
   rw [Uv,ho]
   apply UD
   intro j
   rw [Uy]
   by_cases hj:k=j
   ·subst hj;simp [hk]
   ·simp [hj]
  have h3:=TI.2 h.ord
  rw [← hm] at h3
  exact TI.1 h3
 ·have h2:tkE es=tkE (es.take k)++(tk (es[k].q++es[k].s)++tkE (es.drop (k+1))):=by
   have:=congrArg tkE (Wb hk)
   rw [Za7,Vp] at this
   exact this
  rw [h2,Zgs hk,Za7,Vp]
  exact (List.Sublist.refl _).append (ht.append (List.Sublist.refl _))
theorem ZmM {n:Int} {es:List Ep} (h:Vld n es) {k j:Nat} (hk:k < es.length) (hj:j < es[k].s.length):Vld n (es.set k { es[k] with s:=es[k].s.take j++es[k].s.drop (j+1) }):=by
 have hok:=h.ok _ (Xy hk)
 have hs:(es[k].s.take j++es[k].s.drop (j+1)).Sublist es[k].s:=by
  conv=>rhs;rw [Wb hj]
  exact (List.Sublist.refl _).append (List.sublist_cons_self _ _)
 refine Zoc h hk ⟨hok.o0,hok.o1,hok.v0,hok.v1,hok.ql,XY hs.length_le hok.sl,hok.qm,fun m hm=>hok.sm m (hs.subset hm)⟩ rfl (Zp8 ((List.Sublist.refl _).append hs))
theorem Wg (d:Int) (l:List Ms):(keep d l).Sublist l:=List.filter_sublist
theorem ZmZ (d:Int):∀ es:List Ep,(tkE (left d es)).Sublist (tkE es)
 | [] => List.Sublist.refl _
 | e :: es => by
  have ih:=ZmZ d es
  by_cases hv:e.v=d
  ·have:left d (e::es)=left d es:=by unfold left;rw [List.filter_cons_of_neg (by simp [hv])]
   rw [this,Vp]
   exact ih.trans (List.sublist_append_right _ _)
  ·have:left d (e::es)=ZtN d e::left d es:=by unfold left;rw [List.filter_cons_of_pos (by simp [hv])];rfl
   rw [this,Vp,Vp]
   exact (Zp8 ((Wg d e.q).append (Wg d e.s))).append ih
theorem ZoJ {n:Int} {es:List Ep} (h:Vld n es) (d:Int):Vld n (left d es):=by
 have hl:=ZeP d es
 have hlen:=h.len
 refine ZeV h (by omega) (fun e he=>?_) ?_ (ZmZ d es)
 ·obtain ⟨e0,he0,rfl⟩:=Xm.1 he
  have hok:=h.ok e0 (U4.1 he0).1
  exact ⟨hok.o0,hok.o1,hok.v0,hok.v1,XY (J7 d e0.q) hok.ql,XY (J7 d e0.s) hok.sl,fun m hm=>hok.qm m ((Wg d _).subset hm),fun m hm=>hok.sm m ((Wg d _).subset hm)⟩
 ·unfold left
  rw [TI]
  exact (h.ord.sublist List.filter_sublist).imp fun h=>h
theorem ZqG {n:Int} {es:List Ep} (h:Vld n es) {o v:Int} (h1:0≤o) (h2:o≤1099511627775) (h3:0≤v) (h4:v < 32) (hl:es.length < 32) {k:Nat} (hk:k≤es.length) (ha:∀ (j:Nat) (hj:j < es.length),j < k→es[j].o < o) (hb:∀ (j:Nat) (hj:j < es.length),k≤j→o < es[j].o):Vld n (Zbg o v es k):=by
 unfold Zbg
 refine ZeV h (by simp;omega) (fun e he=>?_) ?_ ?_
 ·rcases Xs.1 he with he | he
  ·exact h.ok e (XP he)
  ·rcases Xu.1 he with rfl | he
   ·exact ⟨h1,h2,h3,h4,by simp,by simp,(fun m hm=>by cases hm),(fun m hm=>by cases hm)⟩
   ·exact h.ok e (XS he)
 ·rw [TK]
  refine ⟨h.ord.sublist (List.take_sublist _ _),TL.2 ⟨fun e he=>?_,h.ord.sublist (List.drop_sublist _ _)⟩,fun a haa b hbb=>?_⟩
  ·obtain ⟨j,hj,rfl⟩:=Uz he
   rw [List.getElem_drop]
   exact hb _ _ (by omega)
  ·obtain ⟨j,hj,rfl⟩:=Uz haa
   rw [Xt] at hj
   rw [To]
   rcases Xu.1 hbb with rfl | hbb
   ·exact ha j (by omega) (by omega)
   ·obtain ⟨j2,hj2,rfl⟩:=Uz hbb
    rw [XV] at hj2
    rw [List.getElem_drop]
    exact UH.1 h.ord j (k+j2) (by omega) (by omega) (by omega)
 ·have:tkE (es.take k++⟨o,v,[],[]⟩ :: es.drop k)=tkE es:=by
   rw [Za7,Vp]
   show tkE (es.take k)++(tk ([]++[])++tkE (es.drop k))=_
   rw [show tk ([]++[]) = [] from rfl,X4,← Za7,UI]
  rw [this]
  exact List.Sublist.refl _
noncomputable def F49:Fn:=⟨25,[2],[(3,[(0,.c (.slice 4)),(3,.c (.own Xb 41)),(4,.c (.int .i64))])],[],0,[2,3,18,23],[(7,[(5,3)])],Try.f49,[.c (.slice 4)],[.c (.own Xb 41)],[]⟩
theorem Zu1:F49.S.Ok Try.prog 49:=F49.ok Try.func49 (by kernel_rfl) trivial
noncomputable def g49 (x0:LL):Option (LL):=F49.S.g [.l x0]
noncomputable def Zpl (k:Nat) (x0:LL) (x1:LL) (x2:Int):Option (LL):=F49.lp [0] 0 r0 k [.l x0,.l x1,.i x2]
theorem ZoL (k:Nat) (x0:LL) (x1:LL) (x2:Int):Zpl (k+1) x0 x1 x2 =
 (if (cop .lss x2 (Xh x0:Int))=Xb then
 ZB x0 x2 [.int .i64,.int .i64,.slice 1,.int .i64] fun (r3:Int×Int×LL×Int)=>
 Zm (ZV E0 r3.2.2.1 8)<|
 Zm (ZV x1 (E0++[[AV.val (.int .i64 r3.1),AV.val (.int .i64 r3.2.1),AV.slice Xc 1 r3.2.2.1,AV.val (.int .i64 r3.2.2.2)]]) 48)<|
 Zpl k x0 (x1++(E0++[[AV.val (.int .i64 r3.1),AV.val (.int .i64 r3.2.1),AV.slice Xc 1 r3.2.2.1,AV.val (.int .i64 r3.2.2.2)]])) (iop .add .i64 x2 1)
 else
 Xa (x1)):=by kernel_rfl
theorem ZsC (x0:LL):g49 x0 =
 (Zpl J6 x0 E0 0):=by kernel_rfl
noncomputable def F19:Fn:=⟨36,[2],[(3,[(1,.box [.int .i64,.slice 4]),(2,.box [.int .i64,.slice 4]),(3,.box [.int .i64,.own Xb 2097232]),(4,.c (.int .i64))])],[],0,[],[(2,[(3,800002)])],Try.f19,[.agg [.int .i64,.slice 4]],[.aggo [.int .i64,.own Xb 2097232]],[(49,F49.S)]⟩
theorem Zrz:F19.S.Ok Try.prog 19:=F19.ok Try.func19 (by kernel_rfl) ⟨Zu1,trivial⟩
noncomputable def g19 (x0:Int) (x1:LL):Option (Int×LL):=F19.S.g [.i x0,.l x1]
noncomputable def ZnZ (k:Nat) (x0:Int) (x1:LL) (x2:Int) (x3:LL) (x4:Int) (x5:LL) (x6:Int):Option (Int×LL):=F19.lp [0] 0 r0 k [.i x0,.l x1,.i x2,.l x3,.i x4,.l x5,.i x6]
theorem Zoi (k:Nat) (x0:Int) (x1:LL) (x2:Int) (x3:LL) (x4:Int) (x5:LL) (x6:Int):ZnZ (k+1) x0 x1 x2 x3 x4 x5 x6 =
 (if (cop .lss x6 (Xh x1:Int))=Xb then
 ZB x1 x6 [.int .i64,.int .i64,.slice 4,.slice 4] fun (r7:Int×Int×LL×LL)=>
 (g49 r7.2.2.1).bind fun (r11:LL)=>
 (g49 r7.2.2.2).bind fun (r12:LL)=>
 Zm (ZV x5 (Jj (Jj (E0++[[AV.val (.int .i64 r7.1),AV.val (.int .i64 r7.2.1),AV.slice Xb 4 E0,AV.slice Xb 4 E0]]) (Xg 0) 2 (AV.nest 4 Xb 41 r11)) (Xg 0) 3 (AV.nest 4 Xb 41 r12)) 64)<|
 ZnZ k x0 x1 x2 x3 x4 (x5++(Jj (Jj (E0++[[AV.val (.int .i64 r7.1),AV.val (.int .i64 r7.2.1),AV.slice Xb 4 E0,AV.slice Xb 4 E0]]) (Xg 0) 2 (AV.nest 4 Xb 41 r11)) (Xg 0) 3 (AV.nest 4 Xb 41 r12))) (iop .add .i64 x6 1)
 else
 Xa (x4,x5)):=by kernel_rfl
theorem ZsQ (x0:Int) (x1:LL):g19 x0 x1 =
 (ZnZ J6 x0 x1 0 E0 x0 E0 0):=by kernel_rfl
noncomputable def F35:Fn:=⟨26,[4],[(4,[(0,.c (.slice 1)),(1,.c (.slice 1)),(5,.c (.int .i64))])],[],0,[],[],Try.f35,[.c (.slice 1),.c (.slice 1)],[.c (.bool)],[]⟩
theorem ZtR:F35.S.Ok Try.prog 35:=F35.ok Try.func35 (by kernel_rfl) trivial
noncomputable def g35 (x0:LL) (x1:LL):Option (Bool):=F35.S.g [.l x0,.l x1]
noncomputable def Zot (k:Nat) (x0:LL) (x1:LL) (x2:Int):Option (Bool):=F35.lp [1,0] 0 r0 k [.l x0,.l x1,.i x2]
theorem ZoX (k:Nat) (x0:LL) (x1:LL) (x2:Int):Zot (k+1) x0 x1 x2 =
 (if (cop .lss x2 (Xh x0:Int))=Xb then
 ZB x0 x2 [.int .u64] fun (r3:Int)=>
 ZB x1 x2 [.int .u64] fun (r4:Int)=>
 if (cop .neq r3 r4)=Xb then
 Xa (Xc)
 else
 Zot k x0 x1 (iop .add .i64 x2 1)
 else
 Xa (Xb)):=by kernel_rfl
theorem Zsr (x0:LL) (x1:LL):g35 x0 x1 =
 (if (cop .neq (Xh x0:Int) (Xh x1:Int))=Xb then
 Xa (Xc)
 else
 Zot J6 x0 x1 0):=by kernel_rfl
noncomputable def F30:Fn:=⟨68,[4],[(4,[(0,.c (.slice 4)),(1,.c (.slice 4)),(5,.c (.int .i64))])],[],0,[],[],Try.f30,[.c (.slice 4),.c (.slice 4)],[.c (.bool)],[(35,F35.S)]⟩
theorem Zt7:F30.S.Ok Try.prog 30:=F30.ok Try.func30 (by kernel_rfl) ⟨ZtR,trivial⟩
noncomputable def g30 (x0:LL) (x1:LL):Option (Bool):=F30.S.g [.l x0,.l x1]
noncomputable def ZnI (k:Nat) (x0:LL) (x1:LL) (x2:Int):Option (Bool):=F30.lp [1,0] 0 r0 k [.l x0,.l x1,.i x2]
theorem Zn9 (k:Nat) (x0:LL) (x1:LL) (x2:Int):ZnI (k+1) x0 x1 x2 =
 (if (cop .lss x2 (Xh x0:Int))=Xb then
 ZB x0 x2 [.int .i64,.int .i64,.slice 1,.int .i64] fun (r3:Int×Int×LL×Int)=>
 ZB x1 x2 [.int .i64,.int .i64,.slice 1,.int .i64] fun (r7:Int×Int×LL×Int)=>
 if (cop .neq r3.1 r7.1)=Xb then
 Xa (Xc)
 else
 ZB x0 x2 [.int .i64,.int .i64,.slice 1,.int .i64] fun (r11:Int×Int×LL×Int)=>
 ZB x1 x2 [.int .i64,.int .i64,.slice 1,.int .i64] fun (r15:Int×Int×LL×Int)=>
 if (cop .neq r11.2.1 r15.2.1)=Xb then
 Xa (Xc)
 else
 ZB x0 x2 [.int .i64,.int .i64,.slice 1,.int .i64] fun (r19:Int×Int×LL×Int)=>
 ZB x1 x2 [.int .i64,.int .i64,.slice 1,.int .i64] fun (r23:Int×Int×LL×Int)=>
 if (cop .neq r19.2.2.2 r23.2.2.2)=Xb then
 Xa (Xc)
 else
 ZB x0 x2 [.int .i64,.int .i64,.slice 1,.int .i64] fun (r27:Int×Int×LL×Int)=>
 ZB x1 x2 [.int .i64,.int .i64,.slice 1,.int .i64] fun (r31:Int×Int×LL×Int)=>
 (g35 r27.2.2.1 r31.2.2.1).bind fun (r35:Bool)=>
 if (!r35)=Xb then
 Xa (Xc)
 else
 ZnI k x0 x1 (iop .add .i64 x2 1)
 else
 Xa (Xb)):=by kernel_rfl
theorem Zr1 (x0:LL) (x1:LL):g30 x0 x1 =
 (if (cop .neq (Xh x0:Int) (Xh x1:Int))=Xb then
 Xa (Xc)
 else
 ZnI J6 x0 x1 0):=by kernel_rfl
noncomputable def F21:Fn:=⟨67,[4],[(4,[(2,.box [.int .i64,.slice 4]),(3,.box [.int .i64,.slice 4]),(5,.c (.int .i64))])],[],0,[],[],Try.f21,[.agg [.int .i64,.slice 4],.agg [.int .i64,.slice 4]],[.c (.bool)],[(30,F30.S)]⟩
theorem ZuJ:F21.S.Ok Try.prog 21:=F21.ok Try.func21 (by kernel_rfl) ⟨Zt7,trivial⟩
noncomputable def g21 (x0:Int) (x1:LL) (x2:Int) (x3:LL):Option (Bool):=F21.S.g [.i x0,.l x1,.i x2,.l x3]
noncomputable def Zop (k:Nat) (x0:Int) (x1:LL) (x2:Int) (x3:LL) (x4:Int):Option (Bool):=F21.lp [1,1,0] 0 r0 k [.i x0,.l x1,.i x2,.l x3,.i x4]
theorem Zn8 (k:Nat) (x0:Int) (x1:LL) (x2:Int) (x3:LL) (x4:Int):Zop (k+1) x0 x1 x2 x3 x4 =
 (if (cop .lss x4 (Xh x1:Int))=Xb then
 ZB x1 x4 [.int .i64,.int .i64,.slice 4,.slice 4] fun (r5:Int×Int×LL×LL)=>
 ZB x3 x4 [.int .i64,.int .i64,.slice 4,.slice 4] fun (r9:Int×Int×LL×LL)=>
 if (cop .neq r5.1 r9.1)=Xb then
 Xa (Xc)
 else
 if (cop .neq r5.2.1 r9.2.1)=Xb then
 Xa (Xc)
 else
 (g30 r5.2.2.1 r9.2.2.1).bind fun (r13:Bool)=>
 if (!r13)=Xb then
 Xa (Xc)
 else
 (g30 r5.2.2.2 r9.2.2.2).bind fun (r14:Bool)=>
 if (!r14)=Xb then
 Xa (Xc)
 else
 Zop k x0 x1 x2 x3 (iop .add .i64 x4 1)
 else
 Xa (Xb)):=by kernel_rfl
theorem Zsk (x0:Int) (x1:LL) (x2:Int) (x3:LL):g21 x0 x1 x2 x3 =
 (if (cop .neq x0 x2)=Xb then
 Xa (Xc)
 else
 if (cop .neq (Xh x1:Int) (Xh x3:Int))=Xb then
 Xa (Xc)
 else
 Zop J6 x0 x1 x2 x3 0):=by kernel_rfl
noncomputable def F26:Fn:=⟨68,[4],[(4,[(0,.c (.slice 4)),(1,.c (.slice 4)),(5,.c (.int .i64))])],[],0,[],[],Try.f26,[.c (.slice 4),.c (.slice 4)],[.c (.bool)],[(35,F35.S)]⟩
theorem Zur:F26.S.Ok Try.prog 26:=F26.ok Try.func26 (by kernel_rfl) ⟨ZtR,trivial⟩
noncomputable def g26 (x0:LL) (x1:LL):Option (Bool):=F26.S.g [.l x0,.l x1]
noncomputable def ZpD (k:Nat) (x0:LL) (x1:LL) (x2:Int):Option (Bool):=F26.lp [1,0] 0 r0 k [.l x0,.l x1,.i x2]
theorem Zi2 (k:Nat) (x0:LL) (x1:LL) (x2:Int):ZpD (k+1) x0 x1 x2 =
 (if (cop .lss x2 (Xh x0:Int))=Xb then
 ZB x0 x2 [.int .i64,.int .i64,.int .i64,.slice 1] fun (r3:Int×Int×Int×LL)=>
 ZB x1 x2 [.int .i64,.int .i64,.int .i64,.slice 1] fun (r7:Int×Int×Int×LL)=>
 if (cop .neq r3.1 r7.1)=Xb then
 Xa (Xc)
 else
 ZB x0 x2 [.int .i64,.int .i64,.int .i64,.slice 1] fun (r11:Int×Int×Int×LL)=>
 ZB x1 x2 [.int .i64,.int .i64,.int .i64,.slice 1] fun (r15:Int×Int×Int×LL)=>
 if (cop .neq r11.2.1 r15.2.1)=Xb then
 Xa (Xc)
 else
 ZB x0 x2 [.int .i64,.int .i64,.int .i64,.slice 1] fun (r19:Int×Int×Int×LL)=>
 ZB x1 x2 [.int .i64,.int .i64,.int .i64,.slice 1] fun (r23:Int×Int×Int×LL)=>
 if (cop .neq r19.2.2.1 r23.2.2.1)=Xb then
 Xa (Xc)
 else
 ZB x0 x2 [.int .i64,.int .i64,.int .i64,.slice 1] fun (r27:Int×Int×Int×LL)=>
 ZB x1 x2 [.int .i64,.int .i64,.int .i64,.slice 1] fun (r31:Int×Int×Int×LL)=>
 (g35 r27.2.2.2 r31.2.2.2).bind fun (r35:Bool)=>
 if (!r35)=Xb then
 Xa (Xc)
 else
 ZpD k x0 x1 (iop .add .i64 x2 1)
 else
 Xa (Xb)):=by kernel_rfl
theorem ZsZ (x0:LL) (x1:LL):g26 x0 x1 =
 (if (cop .neq (Xh x0:Int) (Xh x1:Int))=Xb then
 Xa (Xc)
 else
 ZpD J6 x0 x1 0):=by kernel_rfl
noncomputable def F18:Fn:=⟨75,[2],[(5,[(1,.box [.int .i64,.slice 4]),(3,.c (.int .i64)),(4,.c (.int .i64))]),(12,[(1,.box [.int .i64,.slice 4]),(3,.c (.int .i64)),(4,.c (.int .i64)),(5,.box [.int .i64,.int .i64,.slice 4,.slice 4]),(6,.c (.int .i64))]),(17,[(1,.box [.int .i64,.slice 4]),(3,.c (.int .i64)),(4,.c (.int .i64)),(5,.box [.int .i64,.int .i64,.slice 4,.slice 4]),(7,.c (.int .i64))])],[],0,[],[],Try.f18,[.agg [.int .i64,.slice 4]],[.c (.bool)],[]⟩
theorem Zux:F18.S.Ok Try.prog 18:=F18.ok Try.func18 (by kernel_rfl) trivial
noncomputable def g18 (x0:Int) (x1:LL):Option (Bool):=F18.S.g [.i x0,.l x1]
noncomputable def Zoq (rec0:List V→Option (Bool)) (k:Nat) (x0:Int) (x1:LL) (x2:Int) (x3:Int) (x4:Int) (x5:Int) (x6:LL) (x7:LL) (x8:Int):Option (Bool):=F18.lp [1,2,0,1,1,0,1,0] 1 (Zjd r0 0 rec0) k [.i x0,.l x1,.i x2,.i x3,.i x4,.i x5,.l x6,.l x7,.i x8]
theorem Zpu (rec0:List V→Option (Bool)) (k:Nat) (x0:Int) (x1:LL) (x2:Int) (x3:Int) (x4:Int) (x5:Int) (x6:LL) (x7:LL) (x8:Int):Zoq rec0 (k+1) x0 x1 x2 x3 x4 x5 x6 x7 x8 =
 (if (cop .lss x8 (Xh x7:Int))=Xb then
 ZB x7 x8 [.int .i64,.int .i64,.slice 1,.int .i64] fun (r9:Int×Int×LL×Int)=>
 if (cop .gtr (Xh r9.2.2.1:Int) 20)=Xb then
 Xa (Xc)
 else
 Zoq rec0 k x0 x1 x2 x3 x4 x5 x6 x7 (iop .add .i64 x8 1)
 else
 rec0 [.i x0,.l x1,.i x2,.i (iop .add .i64 x3 1)]):=by kernel_rfl
noncomputable def Zn3 (rec0:List V→Option (Bool)) (k:Nat) (x0:Int) (x1:LL) (x2:Int) (x3:Int) (x4:Int) (x5:Int) (x6:LL) (x7:LL) (x8:Int):Option (Bool):=F18.lp [1,2,0,1,1,0] 1 (Zjd r0 0 rec0) k [.i x0,.l x1,.i x2,.i x3,.i x4,.i x5,.l x6,.l x7,.i x8]
theorem ZpC (rec0:List V→Option (Bool)) (k:Nat) (x0:Int) (x1:LL) (x2:Int) (x3:Int) (x4:Int) (x5:Int) (x6:LL) (x7:LL) (x8:Int):Zn3 rec0 (k+1) x0 x1 x2 x3 x4 x5 x6 x7 x8 =
 (if (cop .lss x8 (Xh x6:Int))=Xb then
 ZB x6 x8 [.int .i64,.int .i64,.slice 1,.int .i64] fun (r9:Int×Int×LL×Int)=>
 if (cop .gtr (Xh r9.2.2.1:Int) 20)=Xb then
 Xa (Xc)
 else
 Zn3 rec0 k x0 x1 x2 x3 x4 x5 x6 x7 (iop .add .i64 x8 1)
 else
 Zoq rec0 J6 x0 x1 x2 x3 x4 x5 x6 x7 0):=by kernel_rfl
noncomputable def Zqx (k:Nat) (x0:Int) (x1:LL) (x2:Int) (x3:Int):Option (Bool):=F18.lp [1,0] 0 r0 k [.i x0,.l x1,.i x2,.i x3]
theorem Zpk (k:Nat) (x0:Int) (x1:LL) (x2:Int) (x3:Int):Zqx (k+1) x0 x1 x2 x3 =
 (if (cop .lss x3 (Xh x1:Int))=Xb then
 ZB x1 x3 [.int .i64,.int .i64,.slice 4,.slice 4] fun (r4:Int×Int×LL×LL)=>
 if (cop .gtr (Xh r4.2.2.1:Int) 20)=Xb then
 Xa (Xc)
 else
 if (cop .gtr (Xh r4.2.2.2:Int) 40)=Xb then
 Xa (Xc)
 else
 Zn3 (F18.lp [1,0] 0 r0 k) J6 x0 x1 (iop .add .i64 (iop .add .i64 x2 (Xh r4.2.2.1:Int)) (Xh r4.2.2.2:Int)) x3 r4.1 r4.2.1 r4.2.2.1 r4.2.2.2 0
 else
 Xa ((cop .leq x2 200))):=by kernel_rfl
theorem Zsh (x0:Int) (x1:LL):g18 x0 x1 =
 (if (cop .gtr (Xh x1:Int) 40)=Xb then
 Xa (Xc)
 else
 Zqx J6 x0 x1 0 0):=by kernel_rfl
noncomputable def F51:Fn:=⟨22,[4],[(2,[(1,.c (.int .i64)),(2,.box [.int .i64,.slice 4]),(5,.c (.int .i64))])],[],0,[],[],Try.f51,[.agg [.int .i64,.slice 4],.c (.int .i64)],[.c (.int .i64)],[]⟩
theorem Zth:F51.S.Ok Try.prog 51:=F51.ok Try.func51 (by kernel_rfl) trivial
noncomputable def g51 (x0:Int) (x1:LL) (x2:Int):Option (Int):=F51.S.g [.i x0,.l x1,.i x2]
noncomputable def ZmP (k:Nat) (x0:Int) (x1:Int) (x2:LL) (x3:Int):Option (Int):=F51.lp [0] 0 r0 k [.i x0,.i x1,.l x2,.i x3]
theorem ZjQ (k:Nat) (x0:Int) (x1:Int) (x2:LL) (x3:Int):ZmP (k+1) x0 x1 x2 x3 =
 (if (cop .lss x3 (Xh x2:Int))=Xb then
 ZB x2 x3 [.int .i64,.int .i64,.slice 4,.slice 4] fun (r4:Int×Int×LL×LL)=>
 if (cop .eql r4.1 x0)=Xb then
 Xa (x3)
 else
 ZmP k x0 x1 x2 (iop .add .i64 x3 1)
 else
 Xa ((-1))):=by kernel_rfl
theorem Zqf (x0:Int) (x1:LL) (x2:Int):g51 x0 x1 x2 =
 (ZmP J6 x2 x0 x1 0):=by kernel_rfl
noncomputable def F20:Fn:=⟨97,[6,7],[(12,[(6,.box [.int .i64,.slice 4]),(8,.box [.int .i64,.own Xb 80]),(9,.c (.int .i64))])],[],0,[],[(10,[(8,2)]),(17,[(8,2)])],Try.f20,[.agg [.int .i64,.slice 4],.c (.int .i64),.c (.int .i64)],[.agg [.int .i64,.slice 4],.c (.int .i64)],[(23,F23.S),(50,F50.S),(51,F51.S),(19,F19.S)]⟩
theorem ZuH:F20.S.Ok Try.prog 20:=F20.ok Try.func20 (by kernel_rfl) ⟨ZpS,⟨Zs1,⟨Zth,⟨Zrz,trivial⟩⟩⟩⟩
noncomputable def g20 (x0:Int) (x1:LL) (x2:Int) (x3:Int):Option (Int×LL×Int):=F20.S.g [.i x0,.l x1,.i x2,.i x3]
noncomputable def ZlF (k:Nat) (x0:Int) (x1:LL) (x2:Int) (x3:LL) (x4:Int):Option (Int×LL×Int):=F20.lp [0,1,1,1,0,1,0,1,1,3] 0 r0 k [.i x0,.l x1,.i x2,.l x3,.i x4]
theorem ZjE (k:Nat) (x0:Int) (x1:LL) (x2:Int) (x3:LL) (x4:Int):ZlF (k+1) x0 x1 x2 x3 x4 =
 (if (cop .gtr x4 0)=Xb then
 Zm ((0:Int)≤x4)<|
 Zm ((x4:Int) < (Xh x3:Int))<|
 ZB x3 x4 [.int .i64,.int .i64,.slice 4,.slice 4] fun (r5:Int×Int×LL×LL)=>
 Zm ((0:Int)≤(iop .sub .i64 x4 1))<|
 Zm (((iop .sub .i64 x4 1):Int) < (Xh x3:Int))<|
 ZB x3 (iop .sub .i64 x4 1) [.int .i64,.int .i64,.slice 4,.slice 4] fun (r9:Int×Int×LL×LL)=>
 if (cop .lss r5.1 r9.1)=Xb then
 Zm ((0:Int)≤x4)<|
 Zm ((x4:Int) < (Xh x3:Int))<|
 ZB x3 x4 [.int .i64,.int .i64,.slice 4,.slice 4] fun (r13:Int×Int×LL×LL)=>
 Zm ((0:Int)≤(iop .sub .i64 x4 1))<|
 Zm (((iop .sub .i64 x4 1):Int) < (Xh x3:Int))<|
 ZB x3 (iop .sub .i64 x4 1) [.int .i64,.int .i64,.slice 4,.slice 4] fun (r17:Int×Int×LL×LL)=>
 Zm ((0:Int)≤x4)<|
 Zm ((x4:Int) < (Xh x3:Int))<|
 Zm ((0:Int)≤x4)<|
 Zm ((x4:Int) < (Xh x3:Int))<|
 Zm ((0:Int)≤(iop .sub .i64 x4 1))<|
 Zm (((iop .sub .i64 x4 1):Int) < (Xh (Zq x3 (Xg x4) 0 [AV.val (.int .i64 r17.1),AV.val (.int .i64 r17.2.1),AV.slice Xc 4 r17.2.2.1,AV.slice Xc 4 r17.2.2.2]):Int))<|
 Zm ((0:Int)≤(iop .sub .i64 x4 1))<|
 Zm (((iop .sub .i64 x4 1):Int) < (Xh (Zq x3 (Xg x4) 0 [AV.val (.int .i64 r17.1),AV.val (.int .i64 r17.2.1),AV.slice Xc 4 r17.2.2.1,AV.slice Xc 4 r17.2.2.2]):Int))<|
 ZlF k x0 x1 x2 (Zq (Zq x3 (Xg x4) 0 [AV.val (.int .i64 r17.1),AV.val (.int .i64 r17.2.1),AV.slice Xc 4 r17.2.2.1,AV.slice Xc 4 r17.2.2.2]) (Xg (iop .sub .i64 x4 1)) 0 [AV.val (.int .i64 r13.1),AV.val (.int .i64 r13.2.1),AV.slice Xc 4 r13.2.2.1,AV.slice Xc 4 r13.2.2.2]) (iop .sub .i64 x4 1)
 else
 Xa (x2,x3,0)
 else
 Xa (x2,x3,0)):=by kernel_rfl
theorem Zi0 (x0:Int) (x1:LL) (x2:Int) (x3:Int):g20 x0 x1 x2 x3 =
 ((g23 x0 x1).bind fun (r4:Bool)=>
 if (!r4)=Xb then
 Xa (0,E0,74)
 else
 if (cop .lss x2 0)=Xb then
 Xa (0,E0,1)
 else
 if (cop .geq x2 1099511627776)=Xb then
 Xa (0,E0,1)
 else
 (g50 x3).bind fun (r5:Bool)=>
 if (!r5)=Xb then
 Xa (0,E0,1)
 else
 (g51 x0 x1 x2).bind fun (r6:Int)=>
 if (cop .geq r6 0)=Xb then
 Xa (0,E0,56)
 else
 if (cop .geq (Xh x1:Int) 32)=Xb then
 Xa (0,E0,15)
 else
 (g19 x0 x1).bind fun (r7:Int×LL)=>
 Zm (ZV (Yl r7.2) (E0++[[AV.val (.int .i64 x2),AV.val (.int .i64 x3),AV.slice Xc 4 E0,AV.slice Xc 4 E0]]) 64)<|
 ZlF J6 0 E0 r7.1 ((Yl r7.2)++(E0++[[AV.val (.int .i64 x2),AV.val (.int .i64 x3),AV.slice Xc 4 E0,AV.slice Xc 4 E0]])) (iop .sub .i64 (Xh ((Yl r7.2)++(E0++[[AV.val (.int .i64 x2),AV.val (.int .i64 x3),AV.slice Xc 4 E0,AV.slice Xc 4 E0]])):Int) 1)):=by kernel_rfl
noncomputable def F56:Fn:=⟨39,[2],[(4,[(3,.c (.own Xc 50)),(4,.c (.slice 4)),(5,.c (.int .i64))])],[],0,[],[],Try.f56,[.agg [.int .i64,.int .i64,.slice 4,.slice 4]],[.c (.own Xc 50)],[]⟩
theorem Zt3:F56.S.Ok Try.prog 56:=F56.ok Try.func56 (by kernel_rfl) trivial
noncomputable def g56 (x0:Int) (x1:Int) (x2:LL) (x3:LL):Option (LL):=F56.S.g [.i x0,.i x1,.l x2,.l x3]
noncomputable def ZlA (k:Nat) (x0:LL) (x1:LL) (x2:Int):Option (LL):=F56.lp [3] 0 r0 k [.l x0,.l x1,.i x2]
theorem ZnW (k:Nat) (x0:LL) (x1:LL) (x2:Int):ZlA (k+1) x0 x1 x2 =
 (if (cop .lss x2 (Xh x1:Int))=Xb then
 ZB x1 x2 [.int .i64,.int .i64,.slice 1,.int .i64] fun (r3:Int×Int×LL×Int)=>
 if (cop .gtr r3.1 0)=Xb then
 ZB x1 x2 [.int .i64,.int .i64,.slice 1,.int .i64] fun (r7:Int×Int×LL×Int)=>
 ZB x1 x2 [.int .i64,.int .i64,.slice 1,.int .i64] fun (r11:Int×Int×LL×Int)=>
 Zm (ZV x0 (E0++[[AV.val (.int .i64 r7.1),AV.val (.int .i64 r11.2.1),AV.val (.int .i64 16),AV.slice Xc 1 E0]]) 48)<|
 ZlA k (x0++(E0++[[AV.val (.int .i64 r7.1),AV.val (.int .i64 r11.2.1),AV.val (.int .i64 16),AV.slice Xc 1 E0]])) x1 (iop .add .i64 x2 1)
 else
 ZlA k x0 x1 (iop .add .i64 x2 1)
 else
 Xa (x0)):=by kernel_rfl
theorem Zst (x0:Int) (x1:Int) (x2:LL) (x3:LL):g56 x0 x1 x2 x3 =
 (Zm (ZV E0 x3 48)<|
 Zm (ZV x3 x2 48)<|
 ZlA J6 E0 (x3++x2) 0):=by kernel_rfl
noncomputable def F25:Fn:=⟨41,[4,5,6],[],[],0,[1000008],[(7,[(8,2)]),(9,[(8,2)])],Try.f25,[.agg [.int .i64,.slice 4],.c (.int .i64)],[.agg [.int .i64,.slice 4],.c (.own Xc 50),.c (.int .i64)],[(23,F23.S),(51,F51.S),(19,F19.S),(56,F56.S)]⟩
theorem ZuY:F25.S.Ok Try.prog 25:=F25.ok Try.func25 (by kernel_rfl) ⟨ZpS,⟨Zth,⟨Zrz,⟨Zt3,trivial⟩⟩⟩⟩
noncomputable def g25 (x0:Int) (x1:LL) (x2:Int):Option (Int×LL×LL×Int):=F25.S.g [.i x0,.l x1,.i x2]
theorem Zl0 (x0:Int) (x1:LL) (x2:Int):g25 x0 x1 x2 =
 ((g23 x0 x1).bind fun (r3:Bool)=>
 if (!r3)=Xb then
 Xa (0,E0,E0,74)
 else
 (g51 x0 x1 x2).bind fun (r4:Int)=>
 if (cop .lss r4 0)=Xb then
 Xa (0,E0,E0,17)
 else
 (g19 x0 x1).bind fun (r5:Int×LL)=>
 Zm ((0:Int)≤r4)<|
 Zm ((r4:Int) < (Xh (Yl r5.2):Int))<|
 ZB (Yl r5.2) r4 [.int .i64,.int .i64,.slice 4,.slice 4] fun (r7:Int×Int×LL×LL)=>
 (g56 r7.1 r7.2.1 r7.2.2.1 r7.2.2.2).bind fun (r11:LL)=>
 Zm ((0:Int)≤r4)<|
 Zm ((r4:Int) < (Xh (Yl r5.2):Int))<|
 Xa (r5.1,((UR (Xg r4) (Yl r5.2))++(Uh (Xg (iop .add .i64 r4 1)) (Yl r5.2))),r11,0)):=by kernel_rfl
noncomputable def F57:Fn:=⟨91,[8,9,10],[],[],0,[],[(20,[(12,2),(12,2)])],Try.f57,[.agg [.int .i64,.slice 4],.c (.int .i64),.agg [.int .i64,.int .i64,.slice 1,.int .i64],.c (.bool)],[.agg [.int .i64,.slice 4],.c (.int .i64),.c (.int .i64)],[(23,F23.S),(53,F53.S),(51,F51.S),(19,F19.S)]⟩
theorem Zt2:F57.S.Ok Try.prog 57:=F57.ok Try.func57 (by kernel_rfl) ⟨ZpS,⟨Zub,⟨Zth,⟨Zrz,trivial⟩⟩⟩⟩
noncomputable def g57 (x0:Int) (x1:LL) (x2:Int) (x3:Int) (x4:Int) (x5:LL) (x6:Int) (x7:Bool):Option (Int×LL×Int×Int):=F57.S.g [.i x0,.l x1,.i x2,.i x3,.i x4,.l x5,.i x6,.b x7]
theorem Zae (x0:Int) (x1:LL) (x2:Int) (x3:Int) (x4:Int) (x5:LL) (x6:Int) (x7:Bool):g57 x0 x1 x2 x3 x4 x5 x6 x7 =
 ((g23 x0 x1).bind fun (r8:Bool)=>
 if (!r8)=Xb then
 Xa (0,E0,0,74)
 else
 (g53 x3 x4 x5 x6).bind fun (r9:Bool)=>
 if (!r9)=Xb then
 Xa (0,E0,0,1)
 else
 (g51 x0 x1 x2).bind fun (r10:Int)=>
 if (cop .lss r10 0)=Xb then
 Xa (0,E0,0,17)
 else
 ZB x1 r10 [.int .i64,.int .i64,.slice 4,.slice 4] fun (r11:Int×Int×LL×LL)=>
 if (cop .geq (Xh r11.2.2.1:Int) 8)=Xb then
 Xa (0,E0,0,65)
 else
 if x7=Xb then
 ZB x1 r10 [.int .i64,.int .i64,.slice 4,.slice 4] fun (r15:Int×Int×LL×LL)=>
 if (cop .eql r15.2.1 x4)=Xb then
 Xa (0,E0,0,4)
 else
 if x7=Xb then
 if (cop .eql x0 1099511627776)=Xb then
 Xa (0,E0,0,15)
 else
 (g19 x0 x1).bind fun (r19:Int×LL)=>
 if x7=Xb then
 Zm (ZV E0 x5 8)<|
 Zm ((0:Int)≤r10)<|
 Zm ((r10:Int) < (Xh r19.2:Int))<|
 Zm ((0:Int)≤r10)<|
 Zm (qop (.nst 2 4 41) r19.2 r10=Xb)<|
 Zm (ZV (Yi r19.2 (Xg r10) 2) (E0++[[AV.val (.int .i64 (iop .add .i64 r19.1 1)),AV.val (.int .i64 x4),AV.slice Xc 1 x5,AV.val (.int .i64 x6)]]) 48)<|
 Zm ((0:Int)≤r10)<|
 Zm ((r10:Int) < (Xh (Jj r19.2 (Xg r10) 2 (AV.nest 4 Xc 41 E0)):Int))<|
 Zm ((0:Int)≤r10)<|
 Zm ((r10:Int) < (Xh (Jj r19.2 (Xg r10) 2 (AV.nest 4 Xc 41 E0)):Int))<|
 Xa ((iop .add .i64 r19.1 1),(Yl (Jj (Jj r19.2 (Xg r10) 2 (AV.nest 4 Xc 41 E0)) (Xg r10) 2 (AV.nest 4 Xb 41 ((Yi r19.2 (Xg r10) 2)++(E0++[[AV.val (.int .i64 (iop .add .i64 r19.1 1)),AV.val (.int .i64 x4),AV.slice Xc 1 x5,AV.val (.int .i64 x6)]]))))),(iop .add .i64 r19.1 1),0)
 else
 Zm (ZV E0 x5 8)<|
 Zm ((0:Int)≤r10)<|
 Zm ((r10:Int) < (Xh r19.2:Int))<|
 Zm ((0:Int)≤r10)<|
 Zm (qop (.nst 2 4 41) r19.2 r10=Xb)<|
 Zm (ZV (Yi r19.2 (Xg r10) 2) (E0++[[AV.val (.int .i64 x3),AV.val (.int .i64 x4),AV.slice Xc 1 x5,AV.val (.int .i64 x6)]]) 48)<|
 Zm ((0:Int)≤r10)<|
 Zm ((r10:Int) < (Xh (Jj r19.2 (Xg r10) 2 (AV.nest 4 Xc 41 E0)):Int))<|
 Zm ((0:Int)≤r10)<|
 Zm ((r10:Int) < (Xh (Jj r19.2 (Xg r10) 2 (AV.nest 4 Xc 41 E0)):Int))<|
 Xa (r19.1,(Yl (Jj (Jj r19.2 (Xg r10) 2 (AV.nest 4 Xc 41 E0)) (Xg r10) 2 (AV.nest 4 Xb 41 ((Yi r19.2 (Xg r10) 2)++(E0++[[AV.val (.int .i64 x3),AV.val (.int .i64 x4),AV.slice Xc 1 x5,AV.val (.int .i64 x6)]]))))),x3,0)
 else
 (g19 x0 x1).bind fun (r19:Int×LL)=>
 if x7=Xb then
 Zm (ZV E0 x5 8)<|
 Zm ((0:Int)≤r10)<|
 Zm ((r10:Int) < (Xh r19.2:Int))<|
 Zm ((0:Int)≤r10)<|
 Zm (qop (.nst 2 4 41) r19.2 r10=Xb)<|
 Zm (ZV (Yi r19.2 (Xg r10) 2) (E0++[[AV.val (.int .i64 (iop .add .i64 r19.1 1)),AV.val (.int .i64 x4),AV.slice Xc 1 x5,AV.val (.int .i64 x6)]]) 48)<|
 Zm ((0:Int)≤r10)<|
 Zm ((r10:Int) < (Xh (Jj r19.2 (Xg r10) 2 (AV.nest 4 Xc 41 E0)):Int))<|
 Zm ((0:Int)≤r10)<|
 Zm ((r10:Int) < (Xh (Jj r19.2 (Xg r10) 2 (AV.nest 4 Xc 41 E0)):Int))<|
 Xa ((iop .add .i64 r19.1 1),(Yl (Jj (Jj r19.2 (Xg r10) 2 (AV.nest 4 Xc 41 E0)) (Xg r10) 2 (AV.nest 4 Xb 41 ((Yi r19.2 (Xg r10) 2)++(E0++[[AV.val (.int .i64 (iop .add .i64 r19.1 1)),AV.val (.int .i64 x4),AV.slice Xc 1 x5,AV.val (.int .i64 x6)]]))))),(iop .add .i64 r19.1 1),0)
 else
 Zm (ZV E0 x5 8)<|
 Zm ((0:Int)≤r10)<|
 Zm ((r10:Int) < (Xh r19.2:Int))<|
 Zm ((0:Int)≤r10)<|
 Zm (qop (.nst 2 4 41) r19.2 r10=Xb)<|
 Zm (ZV (Yi r19.2 (Xg r10) 2) (E0++[[AV.val (.int .i64 x3),AV.val (.int .i64 x4),AV.slice Xc 1 x5,AV.val (.int .i64 x6)]]) 48)<|
 Zm ((0:Int)≤r10)<|
 Zm ((r10:Int) < (Xh (Jj r19.2 (Xg r10) 2 (AV.nest 4 Xc 41 E0)):Int))<|
 Zm ((0:Int)≤r10)<|
 Zm ((r10:Int) < (Xh (Jj r19.2 (Xg r10) 2 (AV.nest 4 Xc 41 E0)):Int))<|
 Xa (r19.1,(Yl (Jj (Jj r19.2 (Xg r10) 2 (AV.nest 4 Xc 41 E0)) (Xg r10) 2 (AV.nest 4 Xb 41 ((Yi r19.2 (Xg r10) 2)++(E0++[[AV.val (.int .i64 x3),AV.val (.int .i64 x4),AV.slice Xc 1 x5,AV.val (.int .i64 x6)]]))))),x3,0)
 else
 if x7=Xb then
 if (cop .eql x0 1099511627776)=Xb then
 Xa (0,E0,0,15)
 else
 (g19 x0 x1).bind fun (r15:Int×LL)=>
 if x7=Xb then
 Zm (ZV E0 x5 8)<|
 Zm ((0:Int)≤r10)<|
 Zm ((r10:Int) < (Xh r15.2:Int))<|
 Zm ((0:Int)≤r10)<|
 Zm (qop (.nst 2 4 41) r15.2 r10=Xb)<|
 Zm (ZV (Yi r15.2 (Xg r10) 2) (E0++[[AV.val (.int .i64 (iop .add .i64 r15.1 1)),AV.val (.int .i64 x4),AV.slice Xc 1 x5,AV.val (.int .i64 x6)]]) 48)<|
 Zm ((0:Int)≤r10)<|
 Zm ((r10:Int) < (Xh (Jj r15.2 (Xg r10) 2 (AV.nest 4 Xc 41 E0)):Int))<|
 Zm ((0:Int)≤r10)<|
 Zm ((r10:Int) < (Xh (Jj r15.2 (Xg r10) 2 (AV.nest 4 Xc 41 E0)):Int))<|
 Xa ((iop .add .i64 r15.1 1),(Yl (Jj (Jj r15.2 (Xg r10) 2 (AV.nest 4 Xc 41 E0)) (Xg r10) 2 (AV.nest 4 Xb 41 ((Yi r15.2 (Xg r10) 2)++(E0++[[AV.val (.int .i64 (iop .add .i64 r15.1 1)),AV.val (.int .i64 x4),AV.slice Xc 1 x5,AV.val (.int .i64 x6)]]))))),(iop .add .i64 r15.1 1),0)
 else
 Zm (ZV E0 x5 8)<|
 Zm ((0:Int)≤r10)<|
 Zm ((r10:Int) < (Xh r15.2:Int))<|
 Zm ((0:Int)≤r10)<|
 Zm (qop (.nst 2 4 41) r15.2 r10=Xb)<|
 Zm (ZV (Yi r15.2 (Xg r10) 2) (E0++[[AV.val (.int .i64 x3),AV.val (.int .i64 x4),AV.slice Xc 1 x5,AV.val (.int .i64 x6)]]) 48)<|
 Zm ((0:Int)≤r10)<|
 Zm ((r10:Int) < (Xh (Jj r15.2 (Xg r10) 2 (AV.nest 4 Xc 41 E0)):Int))<|
 Zm ((0:Int)≤r10)<|
 Zm ((r10:Int) < (Xh (Jj r15.2 (Xg r10) 2 (AV.nest 4 Xc 41 E0)):Int))<|
 Xa (r15.1,(Yl (Jj (Jj r15.2 (Xg r10) 2 (AV.nest 4 Xc 41 E0)) (Xg r10) 2 (AV.nest 4 Xb 41 ((Yi r15.2 (Xg r10) 2)++(E0++[[AV.val (.int .i64 x3),AV.val (.int .i64 x4),AV.slice Xc 1 x5,AV.val (.int .i64 x6)]]))))),x3,0)
 else
 (g19 x0 x1).bind fun (r15:Int×LL)=>
 if x7=Xb then
 Zm (ZV E0 x5 8)<|
 Zm ((0:Int)≤r10)<|
 Zm ((r10:Int) < (Xh r15.2:Int))<|
 Zm ((0:Int)≤r10)<|
 Zm (qop (.nst 2 4 41) r15.2 r10=Xb)<|
 Zm (ZV (Yi r15.2 (Xg r10) 2) (E0++[[AV.val (.int .i64 (iop .add .i64 r15.1 1)),AV.val (.int .i64 x4),AV.slice Xc 1 x5,AV.val (.int .i64 x6)]]) 48)<|
 Zm ((0:Int)≤r10)<|
 Zm ((r10:Int) < (Xh (Jj r15.2 (Xg r10) 2 (AV.nest 4 Xc 41 E0)):Int))<|
 Zm ((0:Int)≤r10)<|
 Zm ((r10:Int) < (Xh (Jj r15.2 (Xg r10) 2 (AV.nest 4 Xc 41 E0)):Int))<|
 Xa ((iop .add .i64 r15.1 1),(Yl (Jj (Jj r15.2 (Xg r10) 2 (AV.nest 4 Xc 41 E0)) (Xg r10) 2 (AV.nest 4 Xb 41 ((Yi r15.2 (Xg r10) 2)++(E0++[[AV.val (.int .i64 (iop .add .i64 r15.1 1)),AV.val (.int .i64 x4),AV.slice Xc 1 x5,AV.val (.int .i64 x6)]]))))),(iop .add .i64 r15.1 1),0)
 else
 Zm (ZV E0 x5 8)<|
 Zm ((0:Int)≤r10)<|
 Zm ((r10:Int) < (Xh r15.2:Int))<|
 Zm ((0:Int)≤r10)<|
 Zm (qop (.nst 2 4 41) r15.2 r10=Xb)<|
 Zm (ZV (Yi r15.2 (Xg r10) 2) (E0++[[AV.val (.int .i64 x3),AV.val (.int .i64 x4),AV.slice Xc 1 x5,AV.val (.int .i64 x6)]]) 48)<|
 Zm ((0:Int)≤r10)<|
 Zm ((r10:Int) < (Xh (Jj r15.2 (Xg r10) 2 (AV.nest 4 Xc 41 E0)):Int))<|
 Zm ((0:Int)≤r10)<|
 Zm ((r10:Int) < (Xh (Jj r15.2 (Xg r10) 2 (AV.nest 4 Xc 41 E0)):Int))<|
 Xa (r15.1,(Yl (Jj (Jj r15.2 (Xg r10) 2 (AV.nest 4 Xc 41 E0)) (Xg r10) 2 (AV.nest 4 Xb 41 ((Yi r15.2 (Xg r10) 2)++(E0++[[AV.val (.int .i64 x3),AV.val (.int .i64 x4),AV.slice Xc 1 x5,AV.val (.int .i64 x6)]]))))),x3,0)):=by kernel_rfl
noncomputable def F27:Fn:=⟨28,[10,11],[],[],0,[],[],Try.f27,[.agg [.int .i64,.slice 4],.c (.int .i64),.c (.int .i64),.c (.slice 1),.c (.int .i64)],[.agg [.int .i64,.slice 4],.c (.int .i64)],[(57,F57.S)]⟩
theorem Zuz:F27.S.Ok Try.prog 27:=F27.ok Try.func27 (by kernel_rfl) ⟨Zt2,trivial⟩
noncomputable def g27 (x0:Int) (x1:LL) (x2:Int) (x3:Int) (x4:LL) (x5:Int):Option (Int×LL×Int):=F27.S.g [.i x0,.l x1,.i x2,.i x3,.l x4,.i x5]
theorem Zge (x0:Int) (x1:LL) (x2:Int) (x3:Int) (x4:LL) (x5:Int):g27 x0 x1 x2 x3 x4 x5 =
 ((g57 x0 x1 x2 0 x3 x4 x5 Xc).bind fun (r6:Int×LL×Int×Int)=>
 Xa (r6.1,r6.2.1,r6.2.2.2)):=by kernel_rfl
noncomputable def F28:Fn:=⟨23,[10,11,12],[],[],0,[],[],Try.f28,[.agg [.int .i64,.slice 4],.c (.int .i64),.c (.int .i64),.c (.slice 1),.c (.int .i64)],[.agg [.int .i64,.slice 4],.c (.int .i64),.c (.int .i64)],[(57,F57.S)]⟩
theorem Zu0:F28.S.Ok Try.prog 28:=F28.ok Try.func28 (by kernel_rfl) ⟨Zt2,trivial⟩
noncomputable def g28 (x0:Int) (x1:LL) (x2:Int) (x3:Int) (x4:LL) (x5:Int):Option (Int×LL×Int×Int):=F28.S.g [.i x0,.l x1,.i x2,.i x3,.l x4,.i x5]
theorem Zda (x0:Int) (x1:LL) (x2:Int) (x3:Int) (x4:LL) (x5:Int):g28 x0 x1 x2 x3 x4 x5 =
 ((g57 x0 x1 x2 0 x3 x4 x5 Xb).bind fun (r6:Int×LL×Int×Int)=>
 Xa (r6.1,r6.2.1,r6.2.2.1,r6.2.2.2)):=by kernel_rfl
noncomputable def F29:Fn:=⟨83,[6,7,8],[],[],0,[],[(16,[(10,2),(10,2)])],Try.f29,[.agg [.int .i64,.slice 4],.c (.int .i64),.c (.int .i64)],[.agg [.int .i64,.slice 4],.agg [.int .i64,.int .i64,.slice 1,.int .i64],.c (.int .i64)],[(23,F23.S),(51,F51.S),(19,F19.S)]⟩
theorem Zvn:F29.S.Ok Try.prog 29:=F29.ok Try.func29 (by kernel_rfl) ⟨ZpS,⟨Zth,⟨Zrz,trivial⟩⟩⟩
noncomputable def g29 (x0:Int) (x1:LL) (x2:Int) (x3:Int):Option (Int×LL×Int×Int×LL×Int×Int):=F29.S.g [.i x0,.l x1,.i x2,.i x3]
theorem ZiJ (x0:Int) (x1:LL) (x2:Int) (x3:Int):g29 x0 x1 x2 x3 =
 ((g23 x0 x1).bind fun (r4:Bool)=>
 if (!r4)=Xb then
 Xa (0,E0,0,0,E0,0,74)
 else
 (g51 x0 x1 x2).bind fun (r5:Int)=>
 if (cop .lss r5 0)=Xb then
 Xa (0,E0,0,0,E0,0,17)
 else
 ZB x1 r5 [.int .i64,.int .i64,.slice 4,.slice 4] fun (r6:Int×Int×LL×LL)=>
 if (cop .neq r6.2.1 x3)=Xb then
 Xa (0,E0,0,0,E0,0,8)
 else
 ZB x1 r5 [.int .i64,.int .i64,.slice 4,.slice 4] fun (r10:Int×Int×LL×LL)=>
 if (cop .eql (Xh r10.2.2.1:Int) 0)=Xb then
 Xa (0,E0,0,0,E0,0,2)
 else
 (g19 x0 x1).bind fun (r14:Int×LL)=>
 Zm ((0:Int)≤r5)<|
 Zm ((r5:Int) < (Xh r14.2:Int))<|
 ZB (Zdx (JZ r14.2 (Xg r5) 2 1) 2 1) r5 [.slice 4] fun (r16:LL)=>
 ZB r16 0 [.int .i64,.int .i64,.slice 1,.int .i64] fun (r17:Int×Int×LL×Int)=>
 ZB (Zdx (JZ (JZ r14.2 (Xg r5) 2 1) (Xg r5) 2 1) 2 1) r5 [.slice 4] fun (r21:LL)=>
 Zm ((0:Int)≤1)<|
 Zm ((1:Int)≤(Xh r21:Int))<|
 Zm ((0:Int)≤r5)<|
 Zm ((r5:Int) < (Xh (JZ (JZ r14.2 (Xg r5) 2 1) (Xg r5) 2 1):Int))<|
 if (cop .gtr r17.1 0)=Xb then
 Zm ((0:Int)≤r5)<|
 Zm (qop (.nst 3 4 41) (Zq (JZ (JZ r14.2 (Xg r5) 2 1) (Xg r5) 2 1) (Xg r5) 2 [AV.slice Xc 4 (Uh (Xg 1) r21)]) r5=Xb)<|
 Zm (ZV (Yi (Zq (JZ (JZ r14.2 (Xg r5) 2 1) (Xg r5) 2 1) (Xg r5) 2 [AV.slice Xc 4 (Uh (Xg 1) r21)]) (Xg r5) 3) (E0++[[AV.val (.int .i64 r17.1),AV.val (.int .i64 r17.2.1),AV.slice Xc 1 r17.2.2.1,AV.val (.int .i64 r17.2.2.2)]]) 48)<|
 Zm ((0:Int)≤r5)<|
 Zm ((r5:Int) < (Xh (Jj (Zq (JZ (JZ r14.2 (Xg r5) 2 1) (Xg r5) 2 1) (Xg r5) 2 [AV.slice Xc 4 (Uh (Xg 1) r21)]) (Xg r5) 3 (AV.nest 4 Xc 41 E0)):Int))<|
 Xa (r14.1,(Yl (Jj (Jj (Zq (JZ (JZ r14.2 (Xg r5) 2 1) (Xg r5) 2 1) (Xg r5) 2 [AV.slice Xc 4 (Uh (Xg 1) r21)]) (Xg r5) 3 (AV.nest 4 Xc 41 E0)) (Xg r5) 3 (AV.nest 4 Xb 41 ((Yi (Zq (JZ (JZ r14.2 (Xg r5) 2 1) (Xg r5) 2 1) (Xg r5) 2 [AV.slice Xc 4 (Uh (Xg 1) r21)]) (Xg r5) 3)++(E0++[[AV.val (.int .i64 r17.1),AV.val (.int .i64 r17.2.1),AV.slice Xc 1 r17.2.2.1,AV.val (.int .i64 r17.2.2.2)]]))))),r17.1,r17.2.1,r17.2.2.1,r17.2.2.2,0)
 else
 Xa (r14.1,(Yl (Zq (JZ (JZ r14.2 (Xg r5) 2 1) (Xg r5) 2 1) (Xg r5) 2 [AV.slice Xc 4 (Uh (Xg 1) r21)])),r17.1,r17.2.1,r17.2.2.1,r17.2.2.2,0)):=by kernel_rfl
noncomputable def F31:Fn:=⟨97,[8,9,10],[(7,[(1,.c (.int .i64)),(2,.c (.int .i64)),(3,.c (.slice 1)),(8,.box [.int .i64,.slice 4]),(9,.box [.int .i64,.int .i64,.int .i64,.slice 1]),(11,.box [.int .i64,.own Xb 2097232]),(12,.c (.int .i64))]),(11,[(1,.c (.int .i64)),(2,.c (.int .i64)),(3,.c (.slice 1)),(8,.box [.int .i64,.slice 4]),(9,.box [.int .i64,.int .i64,.int .i64,.slice 1]),(11,.box [.int .i64,.own Xb 2097232]),(12,.c (.int .i64)),(13,.eref 11 2 4 0),(14,.c (.int .i64))])],[],0,[1000011,1000013,1000017],[(18,[(11,2),(11,2)])],Try.f31,[.agg [.int .i64,.slice 4],.c (.int .i64),.c (.int .i64),.c (.slice 1)],[.agg [.int .i64,.slice 4],.agg [.int .i64,.int .i64,.int .i64,.slice 1],.c (.int .i64)],[(23,F23.S),(19,F19.S)]⟩
theorem Zuy:F31.S.Ok Try.prog 31:=F31.ok Try.func31 (by kernel_rfl) ⟨ZpS,⟨Zrz,trivial⟩⟩
noncomputable def g31 (x0:Int) (x1:LL) (x2:Int) (x3:Int) (x4:LL):Option (Int×LL×Int×Int×Int×LL×Int):=F31.S.g [.i x0,.l x1,.i x2,.i x3,.l x4]
noncomputable def ZlP (rec0:List V→Option (Int×LL×Int×Int×Int×LL×Int)) (k:Nat) (x0:Int) (x1:Int) (x2:LL) (x3:Int) (x4:LL) (x5:Int) (x6:Int) (x7:Int) (x8:LL) (x9:Int) (x10:LL) (x11:Int) (x12:Int) (x13:Int):Option (Int×LL×Int×Int×Int×LL×Int):=F31.lp [0,1,1,3,0,3] 1 (Zjd r0 0 rec0) k [.i x0,.i x1,.l x2,.i x3,.l x4,.i x5,.i x6,.i x7,.l x8,.i x9,.l x10,.i x11,.i x12,.i x13]
theorem Zpc (rec0:List V→Option (Int×LL×Int×Int×Int×LL×Int)) (k:Nat) (x0:Int) (x1:Int) (x2:LL) (x3:Int) (x4:LL) (x5:Int) (x6:Int) (x7:Int) (x8:LL) (x9:Int) (x10:LL) (x11:Int) (x12:Int) (x13:Int):ZlP rec0 (k+1) x0 x1 x2 x3 x4 x5 x6 x7 x8 x9 x10 x11 x12 x13 =
 (Zm ((0:Int)≤x12)<|
 Zm (qop (.nst 3 4 41) x10 x12=Xb)<|
 if (cop .lss x13 (Xh (Yi x10 (Xg x12) 3):Int))=Xb then
 Zm ((0:Int)≤x12)<|
 Zm (qop (.nst 3 4 41) x10 x12=Xb)<|
 ZB (Yi x10 (Xg x12) 3) x13 [.int .i64,.int .i64,.slice 1,.int .i64] fun (r14:Int×Int×LL×Int)=>
 if (cop .neq r14.1 x0)=Xb then
 ZlP rec0 k x0 x1 x2 x3 x4 x5 x6 x7 x8 x9 x10 x11 x12 (iop .add .i64 x13 1)
 else
 ZB (Zdx (JZ x10 (Xg x12) 1 1) 1 1) x12 [.int .i64] fun (r18:Int)=>
 if (cop .neq r18 x1)=Xb then
 Xa (0,E0,0,0,0,E0,8)
 else
 Zm ((0:Int)≤x12)<|
 Zm (qop (.nst 3 4 41) (JZ x10 (Xg x12) 1 1) x12=Xb)<|
 Zm ((0:Int)≤x13)<|
 Zm ((x13:Int) < (Xh (Yi (JZ x10 (Xg x12) 1 1) (Xg x12) 3):Int))<|
 Zm (ZV E0 x2 8)<|
 Xa (x9,(Yl (Jj (JZ x10 (Xg x12) 1 1) (Xg x12) 3 (AV.nest 4 Xb 41 ((UR (Xg x13) (Yi (JZ x10 (Xg x12) 1 1) (Xg x12) 3))++(Uh (Xg (iop .add .i64 x13 1)) (Yi (JZ x10 (Xg x12) 1 1) (Xg x12) 3)))))),x0,r14.2.1,0,x2,0)
 else
 rec0 [.i x0,.i x1,.l x2,.i x3,.l x4,.i x5,.i x6,.i x7,.l x8,.i x9,.l x10,.i (iop .add .i64 x11 1)]):=by kernel_rfl
noncomputable def Zpm (k:Nat) (x0:Int) (x1:Int) (x2:LL) (x3:Int) (x4:LL) (x5:Int) (x6:Int) (x7:Int) (x8:LL) (x9:Int) (x10:LL) (x11:Int):Option (Int×LL×Int×Int×Int×LL×Int):=F31.lp [0,1,1,2] 0 r0 k [.i x0,.i x1,.l x2,.i x3,.l x4,.i x5,.i x6,.i x7,.l x8,.i x9,.l x10,.i x11]
theorem Zjz (k:Nat) (x0:Int) (x1:Int) (x2:LL) (x3:Int) (x4:LL) (x5:Int) (x6:Int) (x7:Int) (x8:LL) (x9:Int) (x10:LL) (x11:Int):Zpm (k+1) x0 x1 x2 x3 x4 x5 x6 x7 x8 x9 x10 x11 =
 (if (cop .lss x11 (Xh x10:Int))=Xb then
 if (cop .gtr x0 0)=Xb then
 Zm ((0:Int)≤x11)<|
 Zm ((x11:Int) < (Xh x10:Int))<|
 ZlP (F31.lp [0,1,1,2] 0 r0 k) J6 x0 x1 x2 x3 x4 x5 x6 x7 x8 x9 x10 x11 x11 0
 else
 Xa (0,E0,0,0,0,E0,17)
 else
 Xa (0,E0,0,0,0,E0,17)):=by kernel_rfl
theorem ZiK (x0:Int) (x1:LL) (x2:Int) (x3:Int) (x4:LL):g31 x0 x1 x2 x3 x4 =
 ((g23 x0 x1).bind fun (r5:Bool)=>
 if (!r5)=Xb then
 Xa (0,E0,0,0,0,E0,74)
 else
 if (cop .gtr (Xh x4:Int) 8)=Xb then
 Xa (0,E0,0,0,0,E0,1)
 else
 (g19 x0 x1).bind fun (r6:Int×LL)=>
 Zpm J6 x2 x3 x4 0 E0 0 0 0 E0 r6.1 r6.2 0):=by kernel_rfl
noncomputable def F60:Fn:=⟨28,[4],[(3,[(0,.c (.slice 4)),(1,.c (.int .i64)),(5,.c (.own Xc 41)),(6,.c (.int .i64))])],[],0,[],[],Try.f60,[.c (.slice 4),.c (.int .i64)],[.c (.own Xc 41)],[]⟩
theorem Zuw:F60.S.Ok Try.prog 60:=F60.ok Try.func60 (by kernel_rfl) trivial
noncomputable def g60 (x0:LL) (x1:Int):Option (LL):=F60.S.g [.l x0,.i x1]
noncomputable def ZlV (k:Nat) (x0:LL) (x1:Int) (x2:LL) (x3:Int):Option (LL):=F60.lp [0] 0 r0 k [.l x0,.i x1,.l x2,.i x3]
theorem ZnK (k:Nat) (x0:LL) (x1:Int) (x2:LL) (x3:Int):ZlV (k+1) x0 x1 x2 x3 =
 (if (cop .lss x3 (Xh x0:Int))=Xb then
 ZB x0 x3 [.int .i64,.int .i64,.slice 1,.int .i64] fun (r4:Int×Int×LL×Int)=>
 if (cop .neq r4.2.1 x1)=Xb then
 ZB x0 x3 [.int .i64,.int .i64,.slice 1,.int .i64] fun (r8:Int×Int×LL×Int)=>
 Zm (ZV x2 (E0++[[AV.val (.int .i64 r8.1),AV.val (.int .i64 r8.2.1),AV.slice Xc 1 r8.2.2.1,AV.val (.int .i64 r8.2.2.2)]]) 48)<|
 ZlV k x0 x1 (x2++(E0++[[AV.val (.int .i64 r8.1),AV.val (.int .i64 r8.2.1),AV.slice Xc 1 r8.2.2.1,AV.val (.int .i64 r8.2.2.2)]])) (iop .add .i64 x3 1)
 else
 ZlV k x0 x1 x2 (iop .add .i64 x3 1)
 else
 Xa (x2)):=by kernel_rfl
theorem Zsj (x0:LL) (x1:Int):g60 x0 x1 =
 (ZlV J6 x0 x1 E0 0):=by kernel_rfl
noncomputable def F33:Fn:=⟨60,[4,5,6],[(9,[(1,.c (.int .i64)),(4,.box [.int .i64,.slice 4]),(7,.box [.int .i64,.own Xb 2097232]),(8,.c (.own Xc 80)),(9,.c (.own Xc 50)),(10,.c (.int .i64))])],[],0,[],[(17,[(7,2)])],Try.f33,[.agg [.int .i64,.slice 4],.c (.int .i64)],[.agg [.int .i64,.slice 4],.c (.own Xc 50),.c (.int .i64)],[(23,F23.S),(50,F50.S),(19,F19.S),(60,F60.S),(56,F56.S)]⟩
theorem Zvj:F33.S.Ok Try.prog 33:=F33.ok Try.func33 (by kernel_rfl) ⟨ZpS,⟨Zs1,⟨Zrz,⟨Zuw,⟨Zt3,trivial⟩⟩⟩⟩⟩
noncomputable def g33 (x0:Int) (x1:LL) (x2:Int):Option (Int×LL×LL×Int):=F33.S.g [.i x0,.l x1,.i x2]
noncomputable def Zmv (k:Nat) (x0:Int) (x1:Int) (x2:LL) (x3:Int) (x4:LL) (x5:LL) (x6:LL) (x7:Int):Option (Int×LL×LL×Int):=F33.lp [0,1,0,1,2] 0 r0 k [.i x0,.i x1,.l x2,.i x3,.l x4,.l x5,.l x6,.i x7]
theorem ZoO (k:Nat) (x0:Int) (x1:Int) (x2:LL) (x3:Int) (x4:LL) (x5:LL) (x6:LL) (x7:Int):Zmv (k+1) x0 x1 x2 x3 x4 x5 x6 x7 =
 (if (cop .lss x7 (Xh x4:Int))=Xb then
 Zm ((0:Int)≤x7)<|
 Zm ((x7:Int) < (Xh x4:Int))<|
 ZB (Zdx (JZ x4 (Xg x7) 0 4) 0 4) x7 [.int .i64,.int .i64,.slice 4,.slice 4] fun (r8:Int×Int×LL×LL)=>
 (g60 r8.2.2.1 x0).bind fun (r12:LL)=>
 (g60 r8.2.2.2 x0).bind fun (r13:LL)=>
 if (cop .eql r8.2.1 x0)=Xb then
 (g56 r8.1 r8.2.1 r12 r13).bind fun (r14:LL)=>
 Zm (ZV x6 r14 48)<|
 Zmv k x0 x1 x2 x3 (JZ x4 (Xg x7) 0 4) x5 (x6++r14) (iop .add .i64 x7 1)
 else
 Zm (ZV x5 (E0++[[AV.val (.int .i64 r8.1),AV.val (.int .i64 r8.2.1),AV.slice Xc 4 r12,AV.slice Xc 4 r13]]) 64)<|
 Zmv k x0 x1 x2 x3 (JZ x4 (Xg x7) 0 4) (x5++(E0++[[AV.val (.int .i64 r8.1),AV.val (.int .i64 r8.2.1),AV.slice Xc 4 r12,AV.slice Xc 4 r13]])) x6 (iop .add .i64 x7 1)
 else
 Xa (x3,x5,x6,0)):=by kernel_rfl
theorem ZmA (x0:Int) (x1:LL) (x2:Int):g33 x0 x1 x2 =
 ((g23 x0 x1).bind fun (r3:Bool)=>
 if (!r3)=Xb then
 Xa (0,E0,E0,74)
 else
 (g50 x2).bind fun (r4:Bool)=>
 if (!r4)=Xb then
 Xa (0,E0,E0,1)
 else
 (g19 x0 x1).bind fun (r5:Int×LL)=>
 Zmv J6 x2 0 E0 r5.1 r5.2 E0 E0 0):=by kernel_rfl
noncomputable def F34:Fn:=⟨104,[4],[(5,[(1,.c (.int .i64)),(2,.box [.int .i64,.slice 4]),(5,.c (.own Xb 3)),(6,.c (.int .i64))]),(10,[(1,.c (.int .i64)),(2,.box [.int .i64,.slice 4]),(5,.c (.own Xb 3)),(6,.c (.int .i64)),(8,.c (.slice 4)),(9,.c (.int .i64))]),(15,[(5,.c (.own Xb 3)),(10,.c (.int .i64))]),(18,[(5,.c (.own Xb 3)),(10,.c (.int .i64)),(11,.c (.int .i64))])],[],0,[],[(23,[(5,0)])],Try.f34,[.agg [.int .i64,.slice 4],.c (.int .i64)],[.c (.own Xc 3)],[(23,F23.S)]⟩
theorem Zvd:F34.S.Ok Try.prog 34:=F34.ok Try.func34 (by kernel_rfl) ⟨ZpS,trivial⟩
noncomputable def g34 (x0:Int) (x1:LL) (x2:Int):Option (LL):=F34.S.g [.i x0,.l x1,.i x2]
noncomputable def Zkq (rec0:List V→Option (LL)) (k:Nat) (x0:Int) (x1:Int) (x2:LL) (x3:LL) (x4:Int) (x5:LL) (x6:Int):Option (LL):=F34.lp [0,1,2,4] 1 (Zjd r0 0 rec0) k [.i x0,.i x1,.l x2,.l x3,.i x4,.l x5,.i x6]
theorem Zpe (rec0:List V→Option (LL)) (k:Nat) (x0:Int) (x1:Int) (x2:LL) (x3:LL) (x4:Int) (x5:LL) (x6:Int):Zkq rec0 (k+1) x0 x1 x2 x3 x4 x5 x6 =
 (if (cop .lss x6 (Xh x5:Int))=Xb then
 ZB x5 x6 [.int .i64,.int .i64,.slice 1,.int .i64] fun (r7:Int×Int×LL×Int)=>
 if (cop .eql r7.2.1 x0)=Xb then
 ZB x5 x6 [.int .i64,.int .i64,.slice 1,.int .i64] fun (r11:Int×Int×LL×Int)=>
 if (cop .gtr r11.1 0)=Xb then
 ZB x5 x6 [.int .i64,.int .i64,.slice 1,.int .i64] fun (r15:Int×Int×LL×Int)=>
 Zm (ZV x3 (E0++[[AV.val (.int .i64 r15.1)]]) 8)<|
 Zkq rec0 k x0 x1 x2 (x3++(E0++[[AV.val (.int .i64 r15.1)]])) x4 x5 (iop .add .i64 x6 1)
 else
 Zkq rec0 k x0 x1 x2 x3 x4 x5 (iop .add .i64 x6 1)
 else
 Zkq rec0 k x0 x1 x2 x3 x4 x5 (iop .add .i64 x6 1)
 else
 rec0 [.i x0,.i x1,.l x2,.l x3,.i (iop .add .i64 x4 1)]):=by kernel_rfl
noncomputable def Zo5 (rec0:List V→Option (LL)) (k:Nat) (x0:LL) (x1:Int) (x2:Int):Option (LL):=F34.lp [0,1,0,1,2,0] 1 (Zjd r0 0 rec0) k [.l x0,.i x1,.i x2]
theorem ZiA (rec0:List V→Option (LL)) (k:Nat) (x0:LL) (x1:Int) (x2:Int):Zo5 rec0 (k+1) x0 x1 x2 =
 (if (cop .gtr x2 0)=Xb then
 Zm ((0:Int)≤x2)<|
 Zm ((x2:Int) < (Xh x0:Int))<|
 ZB x0 x2 [.int .i64] fun (r3:Int)=>
 Zm ((0:Int)≤(iop .sub .i64 x2 1))<|
 Zm (((iop .sub .i64 x2 1):Int) < (Xh x0:Int))<|
 ZB x0 (iop .sub .i64 x2 1) [.int .i64] fun (r4:Int)=>
 if (cop .lss r3 r4)=Xb then
 Zm ((0:Int)≤x2)<|
 Zm ((x2:Int) < (Xh x0:Int))<|
 ZB x0 x2 [.int .i64] fun (r5:Int)=>
 Zm ((0:Int)≤(iop .sub .i64 x2 1))<|
 Zm (((iop .sub .i64 x2 1):Int) < (Xh x0:Int))<|
 ZB x0 (iop .sub .i64 x2 1) [.int .i64] fun (r6:Int)=>
 Zm ((0:Int)≤x2)<|
 Zm ((x2:Int) < (Xh x0:Int))<|
 Zm ((0:Int)≤x2)<|
 Zm ((x2:Int) < (Xh x0:Int))<|
 Zm ((0:Int)≤(iop .sub .i64 x2 1))<|
 Zm (((iop .sub .i64 x2 1):Int) < (Xh (Zq x0 (Xg x2) 0 [AV.val (.int .i64 r6)]):Int))<|
 Zm ((0:Int)≤(iop .sub .i64 x2 1))<|
 Zm (((iop .sub .i64 x2 1):Int) < (Xh (Zq x0 (Xg x2) 0 [AV.val (.int .i64 r6)]):Int))<|
 Zo5 rec0 k (Zq (Zq x0 (Xg x2) 0 [AV.val (.int .i64 r6)]) (Xg (iop .sub .i64 x2 1)) 0 [AV.val (.int .i64 r5)]) x1 (iop .sub .i64 x2 1)
 else
 rec0 [.l x0,.i (iop .add .i64 x1 1)]
 else
 rec0 [.l x0,.i (iop .add .i64 x1 1)]):=by kernel_rfl
noncomputable def Zn6 (k:Nat) (x0:LL) (x1:Int):Option (LL):=F34.lp [0,1,0,1,0] 0 r0 k [.l x0,.i x1]
theorem Ziz (k:Nat) (x0:LL) (x1:Int):Zn6 (k+1) x0 x1 =
 (if (cop .lss x1 (Xh x0:Int))=Xb then
 Zo5 (F34.lp [0,1,0,1,0] 0 r0 k) J6 x0 x1 x1
 else
 Xa (x0)):=by kernel_rfl
noncomputable def Zrv (k:Nat) (x0:Int) (x1:Int) (x2:LL) (x3:LL) (x4:Int):Option (LL):=F34.lp [0,1,0] 0 r0 k [.i x0,.i x1,.l x2,.l x3,.i x4]
theorem ZoE (k:Nat) (x0:Int) (x1:Int) (x2:LL) (x3:LL) (x4:Int):Zrv (k+1) x0 x1 x2 x3 x4 =
 (if (cop .lss x4 (Xh x2:Int))=Xb then
 ZB x2 x4 [.int .i64,.int .i64,.slice 4,.slice 4] fun (r5:Int×Int×LL×LL)=>
 Zm (ZV E0 r5.2.2.2 48)<|
 Zm (ZV r5.2.2.2 r5.2.2.1 48)<|
 Zkq (F34.lp [0,1,0] 0 r0 k) J6 x0 x1 x2 x3 x4 (r5.2.2.2++r5.2.2.1) 0
 else
 Zn6 J6 x3 1):=by kernel_rfl
theorem Zqe (x0:Int) (x1:LL) (x2:Int):g34 x0 x1 x2 =
 ((g23 x0 x1).bind fun (r3:Bool)=>
 if (!r3)=Xb then
 Xa (E0)
 else
 Zrv J6 x2 x0 x1 E0 0):=by kernel_rfl
noncomputable def F6:Fn:=⟨297,[12],[(37,[(5,.c (.slice 1)),(6,.box [.int .i64,.slice 4]),(13,.box [.int .i64,.slice 4]),(14,.c (.slice 1)),(27,.c (.slice 1)),(28,.c (.slice 1)),(29,.c (.int .i64))])],[],0,[],[(5,[(13,2),(13,2)])],Try.f6,[.agg [.int .i64,.slice 4],.c (.int .i64),.c (.int .i64),.c (.int .i64),.c (.int .i64),.c (.slice 1)],[.c (.bool)],[(18,F18.S),(8,F8.S),(19,F19.S),(9,F9.S),(20,F20.S),(21,F21.S),(22,F22.S),(23,F23.S),(24,F24.S),(25,F25.S),(26,F26.S),(13,F13.S),(27,F27.S),(12,F12.S),(28,F28.S),(14,F14.S),(29,F29.S),(30,F30.S),(17,F17.S),(31,F31.S),(32,F32.S),(33,F33.S),(16,F16.S),(34,F34.S),(35,F35.S)]⟩
theorem ok6:F6.S.Ok Try.prog 6:=F6.ok Try.func6 (by kernel_rfl) ⟨Zux,⟨ok8,⟨Zrz,⟨ok9,⟨ZuH,⟨ZuJ,⟨Zn5,⟨ZpS,⟨Zu8,⟨ZuY,⟨Zur,⟨Zu7,⟨Zuz,⟨ZtW,⟨Zu0,⟨Zuj,⟨Zvn,⟨Zt7,⟨Zuc,⟨Zuy,⟨Zu5,⟨Zvj,⟨Zvp,⟨Zvd,⟨ZtR,trivial⟩⟩⟩⟩⟩⟩⟩⟩⟩⟩⟩⟩⟩⟩⟩⟩⟩⟩⟩⟩⟩⟩⟩⟩⟩
noncomputable def g6 (x0:Int) (x1:LL) (x2:Int) (x3:Int) (x4:Int) (x5:Int) (x6:LL):Option (Bool):=F6.S.g [.i x0,.l x1,.i x2,.i x3,.i x4,.i x5,.l x6]
noncomputable def Ztk (k:Nat) (x0:LL) (x1:Int) (x2:LL) (x3:Int) (x4:LL) (x5:LL) (x6:LL) (x7:LL) (x8:Int):Option (Bool):=F6.lp [0,1,1,5,1,1,2,1,3,1,1,0,1,3,1,1,3,1,1,1,3,1,1,0,1,3,1,1,0,1,3,1,1,0,1,2,1,0] 0 r0 k [.l x0,.i x1,.l x2,.i x3,.l x4,.l x5,.l x6,.l x7,.i x8]
theorem ZkZ (k:Nat) (x0:LL) (x1:Int) (x2:LL) (x3:Int) (x4:LL) (x5:LL) (x6:LL) (x7:LL) (x8:Int):Ztk (k+1) x0 x1 x2 x3 x4 x5 x6 x7 x8 =
 (if (cop .lss x8 (Xh x6:Int))=Xb then
 ZB x6 x8 [.int .i64] fun (r9:Int)=>
 ZB x7 x8 [.int .i64] fun (r10:Int)=>
 if (cop .neq r9 r10)=Xb then
 Xa (Xc)
 else
 Ztk k x0 x1 x2 x3 x4 x5 x6 x7 (iop .add .i64 x8 1)
 else
 (g21 x3 x4 x1 x2).bind fun (r9:Bool)=>
 if r9=Xb then
 (g35 x5 x0).bind fun (r10:Bool)=>
 if r10=Xb then
 (g8).bind fun (r11:Bool)=>
 Xa (r11)
 else
 Xa (Xc)
 else
 Xa (Xc)):=by kernel_rfl
theorem ZtC (x0:Int) (x1:LL) (x2:Int) (x3:Int) (x4:Int) (x5:Int) (x6:LL):g6 x0 x1 x2 x3 x4 x5 x6 =
 ((g18 x0 x1).bind fun (r7:Bool)=>
 if (!r7)=Xb then
 (g8).bind fun (r8:Bool)=>
 Xa (r8)
 else
 if (cop .gtr (Xh x6:Int) 20)=Xb then
 (g8).bind fun (r8:Bool)=>
 Xa (r8)
 else
 (g19 x0 x1).bind fun (r8:Int×LL)=>
 Zm (ZV E0 x6 8)<|
 (g9 r8.1 (Yl r8.2) x2 x3).bind fun (r10:Int×LL×Int)=>
 (g20 x0 x1 x2 x3).bind fun (r13:Int×LL×Int)=>
 (g21 r10.1 r10.2.1 r13.1 r13.2.1).bind fun (r16:Bool)=>
 if (!r16)=Xb then
 Xa (Xc)
 else
 if (cop .neq r10.2.2 r13.2.2)=Xb then
 Xa (Xc)
 else
 (g22 r8.1 (Yl r8.2)).bind fun (r17:Bool)=>
 (g23 x0 x1).bind fun (r18:Bool)=>
 if (!(r17 == r18))=Xb then
 Xa (Xc)
 else
 (g24 r8.1 (Yl r8.2) x2).bind fun (r19:Int×LL×LL×Int)=>
 (g25 x0 x1 x2).bind fun (r23:Int×LL×LL×Int)=>
 (g21 r19.1 r19.2.1 r23.1 r23.2.1).bind fun (r27:Bool)=>
 if (!r27)=Xb then
 Xa (Xc)
 else
 if (cop .neq r19.2.2.2 r23.2.2.2)=Xb then
 Xa (Xc)
 else
 (g26 r19.2.2.1 r23.2.2.1).bind fun (r28:Bool)=>
 if (!r28)=Xb then
 Xa (Xc)
 else
 (g13 r8.1 (Yl r8.2) x2 x3 x6 x5).bind fun (r29:Int×LL×Int)=>
 (g27 x0 x1 x2 x3 x6 x5).bind fun (r32:Int×LL×Int)=>
 (g21 r29.1 r29.2.1 r32.1 r32.2.1).bind fun (r35:Bool)=>
 if (!r35)=Xb then
 Xa (Xc)
 else
 if (cop .neq r29.2.2 r32.2.2)=Xb then
 Xa (Xc)
 else
 (g12 r8.1 (Yl r8.2) x2 x3 x6 x5).bind fun (r36:Int×LL×Int×Int)=>
 (g28 x0 x1 x2 x3 x6 x5).bind fun (r40:Int×LL×Int×Int)=>
 (g21 r36.1 r36.2.1 r40.1 r40.2.1).bind fun (r44:Bool)=>
 if (!r44)=Xb then
 Xa (Xc)
 else
 if (cop .neq r36.2.2.2 r40.2.2.2)=Xb then
 Xa (Xc)
 else
 if (cop .neq r36.2.2.1 r40.2.2.1)=Xb then
 Xa (Xc)
 else
 (g14 r8.1 (Yl r8.2) x2 x3).bind fun (r45:Int×LL×Int×Int×LL×Int×Int)=>
 (g29 x0 x1 x2 x3).bind fun (r52:Int×LL×Int×Int×LL×Int×Int)=>
 (g21 r45.1 r45.2.1 r52.1 r52.2.1).bind fun (r59:Bool)=>
 if (!r59)=Xb then
 Xa (Xc)
 else
 if (cop .neq r45.2.2.2.2.2.2 r52.2.2.2.2.2.2)=Xb then
 Xa (Xc)
 else
 (g30 (E0++[[AV.val (.int .i64 r45.2.2.1),AV.val (.int .i64 r45.2.2.2.1),AV.slice Xc 1 r45.2.2.2.2.1,AV.val (.int .i64 r45.2.2.2.2.2.1)]]) (E0++[[AV.val (.int .i64 r52.2.2.1),AV.val (.int .i64 r52.2.2.2.1),AV.slice Xc 1 r52.2.2.2.2.1,AV.val (.int .i64 r52.2.2.2.2.2.1)]])).bind fun (r60:Bool)=>
 if (!r60)=Xb then
 Xa (Xc)
 else
 (g17 r8.1 (Yl r8.2) x4 x3 x6).bind fun (r61:Int×LL×Int×Int×Int×LL×Int)=>
 (g31 x0 x1 x4 x3 x6).bind fun (r68:Int×LL×Int×Int×Int×LL×Int)=>
 (g21 r61.1 r61.2.1 r68.1 r68.2.1).bind fun (r75:Bool)=>
 if (!r75)=Xb then
 Xa (Xc)
 else
 if (cop .neq r61.2.2.2.2.2.2 r68.2.2.2.2.2.2)=Xb then
 Xa (Xc)
 else
 (g26 (E0++[[AV.val (.int .i64 r61.2.2.1),AV.val (.int .i64 r61.2.2.2.1),AV.val (.int .i64 r61.2.2.2.2.1),AV.slice Xc 1 r61.2.2.2.2.2.1]]) (E0++[[AV.val (.int .i64 r68.2.2.1),AV.val (.int .i64 r68.2.2.2.1),AV.val (.int .i64 r68.2.2.2.2.1),AV.slice Xc 1 r68.2.2.2.2.2.1]])).bind fun (r76:Bool)=>
 if (!r76)=Xb then
 Xa (Xc)
 else
 (g32 r8.1 (Yl r8.2) x3).bind fun (r77:Int×LL×LL×Int)=>
 (g33 x0 x1 x3).bind fun (r81:Int×LL×LL×Int)=>
 (g21 r77.1 r77.2.1 r81.1 r81.2.1).bind fun (r85:Bool)=>
 if (!r85)=Xb then
 Xa (Xc)
 else
 if (cop .neq r77.2.2.2 r81.2.2.2)=Xb then
 Xa (Xc)
 else
 (g26 r77.2.2.1 r81.2.2.1).bind fun (r86:Bool)=>
 if (!r86)=Xb then
 Xa (Xc)
 else
 (g16 r8.1 (Yl r8.2) x3).bind fun (r87:LL)=>
 (g34 x0 x1 x3).bind fun (r88:LL)=>
 if (cop .neq (Xh r87:Int) (Xh r88:Int))=Xb then
 Xa (Xc)
 else
 Ztk J6 x6 x0 x1 r8.1 (Yl r8.2) x6 r87 r88 0):=by kernel_rfl
theorem s49 (ms:List Ms) (hl:ms.length < 900) (hw:∀ m∈ms,m.w.length≤1000):g49 (ms.map mc)=Xa (ms.map mc):=by
 refine ZA ?_
 rw [ZsC]
 refine Zu (F:=fun k (s:LL) i=>Zpl k (ms.map mc) s i) ms.length (fun i s=>s=(ms.take i).map mc) (by omega) (fun k i s hi hs next=>?_) E0 (by simp)
 subst hs
 refine Ze (ZoL ..) (Zb (fun hh=>?_) fun hh=>?_)
 ·rw [Xi] at hh
  simp only [CQ] at hh
  have hi':i < ms.length:=by omega
  refine Ze (Jo hi' _) (Zc (ZD (by have:=hw _ (Xy hi');show 0+ms[i].w.length≤_;omega) (by decide)) (Zc (ZD (by simp;omega) (by decide)) ?_))
  rw [Ji hi (by omega)]
  refine next hi' _ ?_
  rw [Um hi',XJ]
  rfl
 ·rw [Xi] at hh
  simp only [CQ] at hh
  have:i=ms.length:=by omega
  subst this
  rw [XW]
  exact Zd rfl
theorem s19 (n:Int) (es:List Ep) (hl:es.length < 900) (hq:∀ e∈es,e.q.length < 900∧e.s.length < 900∧(∀ m∈e.q,m.w.length≤1000)∧∀ m∈e.s,m.w.length≤1000):g19 n (es.map ec)=Xa (n,es.map en):=by
 refine ZA ?_
 rw [ZsQ]
 refine Zu (F:=fun k (s:LL) i=>ZnZ k n (es.map ec) 0 E0 n s i) es.length (fun i s=>s=(es.take i).map en) (by omega) (fun k i s hi hs next=>?_) E0 (by simp)
 subst hs
 refine Ze (Zoi ..) (Zb (fun hh=>?_) fun hh=>?_)
 ·rw [Xi] at hh
  simp only [CQ] at hh
  have hi':i < es.length:=by omega
  obtain ⟨q1,q2,q3,q4⟩:=hq _ (Xy hi')
  refine Ze (ZX hi' _) (Za (s49 es[i].q q1 q3) (Za (s49 es[i].s q2 q4) (Zc (ZD ?_ (by decide)) ?_)))
  ·show ((es.take i).map en).length+1≤4096
   simp;omega
  rw [Ji hi (by omega)]
  refine next hi' _ ?_
  rw [Um hi',XJ]
  rfl
 ·rw [Xi] at hh
  simp only [CQ] at hh
  have:i=es.length:=by omega
  subst this
  rw [XW]
  exact Zd rfl
def WOk (w:LL):Prop:=∃ l:List Int,w=ZR l∧l.length≤900
theorem s35 (w:LL) (h:WOk w):g35 w w=Xa Xb:=by
 obtain ⟨l,rfl,hl⟩:=h
 refine ZA ?_
 rw [Zsr]
 refine Zb (fun h=>?_) fun _=>?_
 ·simp only [CQ] at h;exact (h rfl).elim
 have hwl:(ZR l).length=l.length:=by simp [ZR]
 refine Zu (F:=fun k (_:Unit) i=>Zot k (ZR l) (ZR l) i) l.length (fun _ _=>True) (by omega) (fun k i s hi hs next=>?_) () trivial
 refine Ze (ZoX ..) (Zb (fun hh=>?_) fun _=>Zd rfl)
 rw [hwl] at hh
 simp only [CQ] at hh
 have hi':i < l.length:=by omega
 refine Ze (Zd4 hi' _) (Ze (Zd4 hi' _) (Zb (fun h=>?_) fun _=>?_))
 ·simp only [CQ] at h;exact (h rfl).elim
 ·rw [Ji hi (by omega)]
  exact next hi' () trivial
theorem s30 (ms:List Ms) (hl:ms.length≤900) (hw:∀ m∈ms,WOk m.w):g30 (ms.map mc) (ms.map mc)=Xa Xb:=by
 refine ZA ?_
 rw [Zr1]
 refine Zb (fun h=>?_) fun _=>?_
 ·simp only [CQ] at h;exact (h rfl).elim
 refine Zu (F:=fun k (_:Unit) i=>ZnI k (ms.map mc) (ms.map mc) i) ms.length (fun _ _=>True) (by omega) (fun k i s hi hs next=>?_) () trivial
 refine Ze (Zn9 ..) (Zb (fun hh=>?_) fun _=>Zd rfl)
 rw [Xi] at hh
 simp only [CQ] at hh
 have hi':i < ms.length:=by omega
 refine Ze (Jo hi' _) (Ze (Jo hi' _) (Zb (fun h=>?_) fun _=>?_))
 ·simp only [CQ] at h;exact (h rfl).elim
 refine Ze (Jo hi' _) (Ze (Jo hi' _) (Zb (fun h=>?_) fun _=>?_))
 ·simp only [CQ] at h;exact (h rfl).elim
 refine Ze (Jo hi' _) (Ze (Jo hi' _) (Zb (fun h=>?_) fun _=>?_))
 ·simp only [CQ] at h;exact (h rfl).elim
 refine Ze (Jo hi' _) (Ze (Jo hi' _) (Za (s35 ms[i].w (hw _ (Xy hi'))) (Zb (fun h=>by cases h) fun _=>?_)))
 rw [Ji hi (by omega)]
 exact next hi' () trivial
structure Zc1 (es:List Ep):Prop where
 len:es.length≤900
 q:∀ e∈es,e.q.length≤450∧e.s.length≤450
 w:∀ e∈es,∀ m∈e.q++e.s,WOk m.w
theorem s21 (n:Int) (es:List Ep) (h:Zc1 es):g21 n (es.map ec) n (es.map ec)=Xa Xb:=by
 refine ZA ?_
 rw [Zsk]
 refine Zb (fun h=>?_) fun _=>Zb (fun h=>?_) fun _=>?_
 ·simp only [CQ] at h;exact (h rfl).elim
 ·simp only [CQ] at h;exact (h rfl).elim
 have hlen:=h.len
 refine Zu (F:=fun k (_:Unit) i=>Zop k n (es.map ec) n (es.map ec) i) es.length (fun _ _=>True) (by omega) (fun k i s hi hs next=>?_) () trivial
 refine Ze (Zn8 ..) (Zb (fun hh=>?_) fun _=>Zd rfl)
 rw [Xi] at hh
 simp only [CQ] at hh
 have hi':i < es.length:=by omega
 obtain ⟨h1,h2⟩:=h.q _ (Xy hi')
 have h3:=h.w _ (Xy hi')
 refine Ze (ZX hi' _) (Ze (ZX hi' _) (Zb (fun h=>?_) fun _=>Zb (fun h=>?_) fun _=>?_))
 ·simp only [CQ] at h;exact (h rfl).elim
 ·simp only [CQ] at h;exact (h rfl).elim
 refine Za (s30 es[i].q (by omega) fun m hm=>h3 m (by simp [hm])) (Zb (fun h=>by cases h) fun _=>Za (s30 es[i].s (by omega) fun m hm=>h3 m (by simp [hm])) (Zb (fun h=>by cases h) fun _=>?_))
 rw [Ji hi (by omega)]
 exact next hi' () trivial
def os (p:Int×Int×Int×LL):List AV:=[I p.1,I p.2.1,I p.2.2.1,.slice Xc 1 p.2.2.2]
theorem Zbm {γ:Type} {l:List (Int×Int×Int×LL)} {i:Nat} (h:i < l.length) (k:Int×Int×Int×LL→Option γ):ZB (l.map os) (i:Int) [.int .i64,.int .i64,.int .i64,.slice 1] k=k l[i]:=Zau (f:=os) (sh:=[.int .i64,.int .i64,.int .i64,.slice 1]) (v:=fun x=>x) (fun _=>rfl) h k
theorem s26 (l:List (Int×Int×Int×LL)) (hl:l.length≤100000) (hw:∀ p∈l,WOk p.2.2.2):g26 (l.map os) (l.map os)=Xa Xb:=by
 refine ZA ?_
 rw [ZsZ]
 refine Zb (fun h=>?_) fun _=>?_
 ·simp only [CQ] at h;exact (h rfl).elim
 refine KM (F:=fun k (_:Unit) i=>ZpD k (l.map os) (l.map os) i) (n:=l.length) (fun _ _=>True) (by omega) (fun k i s hi' hs next=>?_) (fun k s _=>?_) () trivial
 ·refine Ze (Zi2 ..) (Zb (fun _=>?_) fun _=>Zd rfl)
  refine Ze (Zbm hi' _) (Ze (Zbm hi' _) (Zb (fun h=>?_) fun _=>?_))
  ·simp only [CQ] at h;exact (h rfl).elim
  refine Ze (Zbm hi' _) (Ze (Zbm hi' _) (Zb (fun h=>?_) fun _=>?_))
  ·simp only [CQ] at h;exact (h rfl).elim
  refine Ze (Zbm hi' _) (Ze (Zbm hi' _) (Zb (fun h=>?_) fun _=>?_))
  ·simp only [CQ] at h;exact (h rfl).elim
  refine Ze (Zbm hi' _) (Ze (Zbm hi' _) (Za (s35 l[i].2.2.2 (hw _ (Xy hi'))) (Zb (fun h=>by cases h) fun _=>?_)))
  rw [Zaf (by omega)]
  exact next () trivial
 ·refine Ze (Zi2 ..) (Zb (fun hh=>?_) fun _=>Zd rfl)
  rw [Xi] at hh
  simp only [CQ] at hh;omega
def Zts (e:Ep):Prop:=e.q.length≤20∧e.s.length≤40∧∀ m∈e.q++e.s,m.w.length≤20
structure Few (es:List Ep):Prop where
 len:es.length≤40
 e:∀ e∈es,Zts e
theorem s18 (n:Int) (es:List Ep):Ret (fun b=>b=Xb→Few es) (g18 n (es.map ec)):=by
 rw [Zsh]
 refine Zb (fun _=>Zd fun h=>by cases h) fun hl=>?_
 simp only [CQ,Xi] at hl
 refine Zu (F:=fun k (s:Int) i=>Zqx k n (es.map ec) s i) es.length (fun i _=>∀ (j:Nat) (hj:j < es.length),j < i→Zts es[j]) (by omega) (fun k i s hi hs next=>?_) (0:Int) (fun j _ h=>by omega)
 refine Ze (Zpk ..) (Zb (fun hh=>?_) fun hh=>?_)
 ·rw [Xi] at hh
  simp only [CQ] at hh
  have hi':i < es.length:=by omega
  refine Ze (ZX hi' _) (Zb (fun _=>Zd fun h=>by cases h) fun hq=>Zb (fun _=>Zd fun h=>by cases h) fun hs2=>?_)
  simp only [CQ,ev,Xi] at hq hs2
  refine Zu (F:=fun f (_:Unit) j=>Zn3 (F18.lp [1,0] 0 r0 k) f n (es.map ec) _ (i:Int) es[i].o es[i].v (es[i].q.map mc) (es[i].s.map mc) j) es[i].q.length (fun j _=>∀ (a:Nat) (ha:a < es[i].q.length),a < j→es[i].q[a].w.length≤20) (by omega) (fun f j _ hj hsj nx=>?_) () (fun a _ h=>by omega)
  refine Ze (ZpC ..) (Zb (fun hh=>?_) fun hh=>?_)
  ·rw [Xi] at hh
   simp only [CQ] at hh
   have hj':j < es[i].q.length:=by omega
   refine Ze (Jo hj' _) (Zb (fun _=>Zd fun h=>by cases h) fun hw=>?_)
   simp only [CQ,mv] at hw
   rw [Ji hj (by omega)]
   refine nx hj' () fun a ha haj=>?_
   by_cases hae:a=j
   ·subst hae;omega
   ·exact hsj a ha (by omega)
  ·rw [Xi] at hh
   simp only [CQ] at hh
   refine Zu (F:=fun f (_:Unit) j=>Zoq (F18.lp [1,0] 0 r0 k) f n (es.map ec) _ (i:Int) es[i].o es[i].v (es[i].q.map mc) (es[i].s.map mc) j) es[i].s.length (fun j _=>∀ (a:Nat) (ha:a < es[i].s.length),a < j→es[i].s[a].w.length≤20) (by omega) (fun f' j' _ hj' hsj' nx'=>?_) () (fun a _ h=>by omega)
   refine Ze (Zpu ..) (Zb (fun hh'=>?_) fun hh'=>?_)
   ·rw [Xi] at hh'
    simp only [CQ] at hh'
    have hj2:j' < es[i].s.length:=by omega
    refine Ze (Jo hj2 _) (Zb (fun _=>Zd fun h=>by cases h) fun hw=>?_)
    simp only [CQ,mv] at hw
    rw [Ji hj' (by omega)]
    refine nx' hj2 () fun a ha haj=>?_
    by_cases hae:a=j'
    ·subst hae;omega
    ·exact hsj' a ha (by omega)
   ·rw [Xi] at hh'
    simp only [CQ] at hh'
    rw [Ji hi (by omega)]
    refine next hi' _ fun a ha hai=>?_
    by_cases hae:a=i
    ·subst hae
     refine ⟨by omega,by omega,fun m hm=>?_⟩
     rcases Xs.1 hm with hm | hm
     ·obtain ⟨b,hb,rfl⟩:=Uz hm
      exact hsj b hb (by omega)
     ·obtain ⟨b,hb,rfl⟩:=Uz hm
      exact hsj' b hb (by omega)
    ·exact hs a ha (by omega)
 ·rw [Xi] at hh
  simp only [CQ] at hh
  refine Zd fun _=>⟨by omega,fun e he=>?_⟩
  obtain ⟨b,hb,rfl⟩:=Uz he
  exact hs b hb (by omega)
theorem Zum (o:Int) (h:¬ (0≤o∧o≤1099511627775)):g37 o=Xa Xc:=by
 refine ZA ?_
 rw [Zqi]
 refine Zb (fun h1=>Zd (TM.2 fun h2=>?_)) fun _=>Zd rfl
 simp only [CQ] at h1 h2;omega
theorem Ztj (o:Int) (h:¬ (0≤o∧o < 32)):g38 o=Xa Xc:=by
 refine ZA ?_
 rw [ZpX]
 refine Zb (fun h1=>Zd (TM.2 fun h2=>?_)) fun _=>Zd rfl
 simp only [CQ] at h1 h2;omega
theorem Zs7 (o:Int) (h:¬ (0≤o∧o < 32)):g50 o=Xa Xc:=by
 refine ZA ?_
 rw [Zqd]
 refine Zb (fun h1=>Zd (TM.2 fun h2=>?_)) fun _=>Zd rfl
 simp only [CQ] at h1 h2;omega
theorem Zt0 (m:Ms) (h:¬ KV m):g69 m.t m.c m.w m.s=Xa Xc:=by
 refine ZA ?_
 rw [Zqg]
 refine Zb (fun h1=>?_) fun _=>Zd rfl
 by_cases hc:0≤m.c∧m.c < 32
 ·refine Za (s38 m.c hc.1 hc.2) (Zb (fun _=>Zb (fun h2=>Zb (fun h3=>Zd (TM.2 fun h4=>h ?_)) fun _=>Zd rfl) fun _=>Zd rfl) fun h=>(h rfl).elim)
  simp only [CQ] at h1 h2 h3 h4
  exact ⟨by omega,hc.1,hc.2,by omega,by omega,by omega⟩
 ·exact Za (Ztj m.c hc) (Zb (fun h=>by cases h) fun _=>Zd rfl)
theorem ZtZ (m:Ms) (h:¬ KV m):g53 m.t m.c m.w m.s=Xa Xc:=by
 refine ZA ?_
 rw [Zqn]
 refine Zb (fun h1=>?_) fun _=>Zd rfl
 by_cases hc:0≤m.c∧m.c < 32
 ·refine Za (s50 m.c hc.1 hc.2) (Zb (fun _=>Zb (fun h2=>Zb (fun h3=>Zd (TM.2 fun h4=>h ?_)) fun _=>Zd rfl) fun _=>Zd rfl) fun h=>(h rfl).elim)
  simp only [CQ] at h1 h2 h3 h4
  exact ⟨by omega,hc.1,hc.2,by omega,by omega,by omega⟩
 ·exact Za (Zs7 m.c hc) (Zb (fun h=>by cases h) fun _=>Zd rfl)
theorem Zt5 (m:Ms):Ret (fun b=>b=Xb↔KV m) (g69 m.t m.c m.w m.s):=by
 by_cases h:KV m
 ·exact Ze (s69 m h) (Zd (by simp [h]))
 ·exact Ze (Zt0 m h) (Zd (by simp [h]))
theorem ZuU (m:Ms):Ret (fun b=>b=Xb↔KV m) (g53 m.t m.c m.w m.s):=by
 by_cases h:KV m
 ·exact Ze (s53 m h) (Zd (by simp [h]))
 ·exact Ze (ZtZ m h) (Zd (by simp [h]))
theorem ZuV (o:Int):Ret (fun b=>b=Xb↔0≤o∧o≤1099511627775) (g37 o):=by
 by_cases h:0≤o∧o≤1099511627775
 ·exact Ze (s37 o h.1 h.2) (Zd (by simp [h]))
 ·exact Ze (Zum o h) (Zd (by simp only [h];simp))
theorem Zu9 (o:Int):Ret (fun b=>b=Xb↔0≤o∧o < 32) (g38 o):=by
 by_cases h:0≤o∧o < 32
 ·exact Ze (s38 o h.1 h.2) (Zd (by simp [h]))
 ·exact Ze (Ztj o h) (Zd (by simp only [h];simp))
theorem ZuT (o:Int):Ret (fun b=>b=Xb↔0≤o∧o < 32) (g50 o):=by
 by_cases h:0≤o∧o < 32
 ·exact Ze (s50 o h.1 h.2) (Zd (by simp [h]))
 ·exact Ze (Zs7 o h) (Zd (by simp only [h];simp))
theorem ZaL {P:Prop} {Q:Prop} {b:Bool} (hb:b=Xb↔Q) {x:Option Bool} (k:Q→Ret (fun r=>r=Xb→P) x):Ret (fun r=>r=Xb→P) (if (!b)=Xb then Xa Xc else x):=
 Zb (fun _=>Zd fun h=>by cases h) fun h=>k (hb.1 (by cases b<;>simp_all))
theorem Y6 {P:Prop} {c:Prop} {_:Decidable c} {x:Option Bool} (k:¬ c→Ret (fun r=>r=Xb→P) x):Ret (fun r=>r=Xb→P) (if c then Xa Xc else x):=
 Zb (fun _=>Zd fun h=>by cases h) k
theorem Zvl (e:Ep) (hf:Zts e) (ho:0≤e.o∧e.o≤1099511627775) (hv:0≤e.v∧e.v < 32):Ret (fun b=>b=Xb→Zlk e) (g52 e.o e.v (e.q.map mc) (e.s.map mc)):=by
 obtain ⟨hf1,hf2,_⟩:=hf
 rw [Zqh]
 refine Y6 fun h8=>?_
 simp only [CQ,Xi] at h8
 rw [Xi]
 refine Zu (F:=fun k (_:Unit) i=>Zmj k e.o e.v (e.q.map mc) (e.s.map mc) (e.q.map mc) (e.q.length:Int) i) e.q.length (fun i _=>∀ (a:Nat) (ha:a < e.q.length),a < i→KV e.q[a]) (by omega) (fun k i _ hi hs next=>?_) () (fun a _ h=>by omega)
 refine Ze (ZiD ..) (Zb (fun hh=>?_) fun hh=>?_)
 ·simp only [CQ] at hh
  have hi':i < e.q.length:=by omega
  refine Ze (Jo hi' _) (Yc (Zt5 e.q[i]) fun r hr=>ZaL hr fun hm=>?_)
  rw [Ji hi (by omega)]
  refine next hi' () fun a ha hai=>?_
  by_cases hae:a=i
  ·subst hae;exact hm
  ·exact hs a ha (by omega)
 ·simp only [CQ] at hh
  have hq:∀ m∈e.q,KV m:=fun m hm=>by
   obtain ⟨b,hb,rfl⟩:=Uz hm
   exact hs b hb (by omega)
  rw [Xi]
  refine Zu (F:=fun k (_:Unit) i=>Zko k (e.s.map mc) (e.s.length:Int) i) e.s.length (fun i _=>∀ (a:Nat) (ha:a < e.s.length),a < i→KV e.s[a]∧e.s[a].t≠0) (by omega) (fun k i _ hi hs next=>?_) () (fun a _ h=>by omega)
  refine Ze (ZiM ..) (Zb (fun hh=>?_) fun hh=>?_)
  ·simp only [CQ] at hh
   have hi':i < e.s.length:=by omega
   refine Ze (Jo hi' _) (Yc (Zt5 e.s[i]) fun r hr=>ZaL hr fun hm=>Y6 fun h0=>?_)
   simp only [CQ,mv] at h0
   rw [Ji hi (by omega)]
   refine next hi' () fun a ha hai=>?_
   by_cases hae:a=i
   ·subst hae;exact ⟨hm,h0⟩
   ·exact hs a ha (by omega)
  ·simp only [CQ] at hh
   refine Zd fun _=>⟨ho.1,ho.2,hv.1,hv.2,by omega,by omega,hq,fun m hm=>?_⟩
   obtain ⟨b,hb,rfl⟩:=Uz hm
   exact hs b hb (by omega)
theorem Zrk {K:List Int} {t:Int} (h:t∈K):ZbJ (VY K) t [AV.val (.bool Xc)] = [[AV.val (.bool Xb),AV.val (.bool Xb)]]:=by
 have hs:((K.map kv).find? (fun r=>Z1 r == Xa t)).isSome=Xb:=by
  rw [List.find?_isSome]
  exact ⟨kv t,Xm.2 ⟨t,h,rfl⟩,by show (Xa t == Xa t)=Xb;simp⟩
 obtain ⟨r,hr⟩:=Option.isSome_iff_exists.1 hs
 obtain ⟨k,_,rfl⟩:=Xm.1 (List.mem_of_find?_eq_some hr)
 have hf:(JY (VY K)).find? (fun r=>Z1 r == Xa t)=Xa (kv k):=hr
 unfold ZbJ
 rw [hf]
 rfl
structure Pre (n:Int) (l:List Ep):Prop where
 ok:∀ e∈l,Zlk e
 ord:l.Pairwise fun a b=>a.o < b.o
theorem ZbU {n:Int} {es:List Ep} {i:Nat} (hi:i < es.length) (h:Pre n (es.take i)) (he:Zlk es[i]) (ho:∀ (j:Nat) (hj:j < es.length),j+1=i→es[j].o < es[i].o):Pre n (es.take (i+1)):=by
 rw [Um hi]
 refine ⟨fun e hm=>?_,?_⟩
 ·rcases Xs.1 hm with hm | hm
  ·exact h.ok e hm
  ·rw [XH] at hm;subst hm;exact he
 ·rw [TK]
  refine ⟨h.ord,List.pairwise_singleton _ _,fun a ha b hb=>?_⟩
  rw [XH] at hb
  subst hb
  obtain ⟨j,hj,rfl⟩:=Uz ha
  rw [Xt] at hj
  rw [To]
  by_cases hji:j+1=i
  ·exact ho j (by omega) hji
  ·obtain ⟨p,rfl⟩:∃ p,i=p+1:=⟨i-1,by omega⟩
   have h1:=ho p (by omega) rfl
   have h2:=UH.1 h.ord j p (by rw [Xt];omega) (by rw [Xt];omega) (by omega)
   rw [To,To] at h2
   omega
theorem ZuR (n:Int) (es:List Ep) (hf:Few es):Ret (fun b=>b=Xb→Vld n es) (g22 n (es.map ec)):=by
 rw [ZpG]
 refine Y6 fun h1=>Y6 fun h2=>Y6 fun h3=>?_
 simp only [CQ,Xi] at h1 h2 h3
 rw [Xi]
 refine Zu (F:=fun k (s:LL) i=>Zn4 k n (es.map ec) s (es.map ec) (es.length:Int) i) es.length (fun i s=>s=VY (tkE (es.take i))∧Pre n (es.take i)∧(tkE (es.take i)).Nodup∧∀ t∈tkE (es.take i),t≤n) (by omega) (fun k i s hi hs next=>?_) _ ⟨rfl,⟨(fun e he=>by simp at he),List.Pairwise.nil⟩,List.nodup_nil,fun t ht=>by simp [tkE] at ht⟩
 obtain ⟨rfl,hP,hnd,hle⟩:=hs
 refine Ze (ZiY ..) (Zb (fun hh=>?_) fun hh=>?_)
 ·simp only [CQ] at hh
  have hi':i < es.length:=by omega
  have hfe:=hf.e _ (Xy hi')
  refine Ze (ZX hi' _) (Yc (ZuV es[i].o) fun r hr=>ZaL hr fun ho=>Yc (Zu9 es[i].v) fun r hr=>ZaL hr fun hv=>Yc (Zvl es[i] hfe ho hv) fun r hr=>Zb (fun _=>Zd fun h=>by cases h) fun hr2=>?_)
  have he:Zlk es[i]:=hr (by cases r<;>simp_all)
  have hin:Pre n (es.take (i+1))→Ret (fun r=>r=Xb→Vld n es) ((g44 ((E0++[[AV.slice Xc 4 (ev es[i]).2.2.1]])++[[AV.slice Xc 4 (ev es[i]).2.2.2]])).bind fun (r17:LL)=>
    ZdS (F22.lp [1,1,1,0] 0 r0 k) J6 n (es.map ec) (VY (tkE (es.take i))) (es.map ec) (es.length:Int) (i:Int) r17 (Xh r17:Int) 0):=fun hP'=>by
   refine Za (s44 es[i].q es[i].s (by have:=he.ql;omega) he.sl) ?_
   obtain ⟨l,hl⟩:∃ l,l=es[i].q++es[i].s:=⟨_,rfl⟩
   have hll:l.length≤408:=by have:=he.ql;have:=he.sl;rw [hl,Xr];omega
   rw [← hl,Xi]
   refine Zu (F:=fun f (s:LL) j=>ZdS (F22.lp [1,1,1,0] 0 r0 k) f n (es.map ec) s (es.map ec) (es.length:Int) (i:Int) (l.map mc) (l.length:Int) j) l.length (fun j s=>s=VY (tkE (es.take i)++tk (l.take j))∧(tkE (es.take i)++tk (l.take j)).Nodup∧∀ t∈tkE (es.take i)++tk (l.take j),t≤n) (by omega) (fun f j s hj hs nx=>?_) _ ⟨by simp [tk],by simpa [tk] using hnd,by simpa [tk] using hle⟩
   obtain ⟨rfl,hnd2,hle2⟩:=hs
   refine Ze (Zi7 ..) (Zb (fun hh=>?_) fun hh=>?_)
   ·simp only [CQ] at hh
    have hj':j < l.length:=by omega
    refine Zc (by omega) (Zc (by rw [Xi];omega) (Ze (Jo hj' _) (Zb (fun h0=>?_) fun h0=>?_)))
    ·simp only [CQ,mv] at h0
     rw [Ji hj (by omega)]
     exact nx hj' _ (by rw [YQ hj',if_pos h0];exact ⟨rfl,hnd2,hle2⟩)
    ·simp only [CQ,mv] at h0
     refine Zc rfl ?_
     by_cases hin:l[j].t∈tkE (es.take i)++tk (l.take j)
     ·rw [show (mv l[j]).1=l[j].t from rfl,Zrk hin]
      exact Ze (JS (sh:=[.bool,.bool]) (r:=(Xb,Xb)) _ (by decide) rfl rfl) (Zb (fun _=>Zd fun h=>by cases h) fun h=>(h rfl).elim)
     ·rw [show (mv l[j]).1=l[j].t from rfl,Znv hin]
      refine Ze (JS (sh:=[.bool,.bool]) (r:=(Xc,Xc)) _ (by decide) rfl rfl) (Zb (fun h=>by cases h) fun _=>Y6 fun hg=>Zc rfl ?_)
      simp only [CQ] at hg
      rw [Zm2 hin,Ji hj (by omega)]
      refine nx hj' _ ⟨by rw [YQ hj',if_neg h0,Xw],?_,?_⟩
      ·rw [YQ hj',if_neg h0,← Xw,TG]
       refine ⟨hnd2,by simp,fun a ha b hb hab=>?_⟩
       rw [XH] at hb
       subst hb;subst hab
       exact hin ha
      ·rw [YQ hj',if_neg h0,← Xw]
       intro t ht
       rcases Xs.1 ht with ht | ht
       ·exact hle2 t ht
       ·rw [XH] at ht;omega
   ·simp only [CQ] at hh
    have:j=l.length:=by omega
    subst this
    rw [XW] at hnd2 hle2 ⊢
    have ht:tkE (es.take (i+1))=tkE (es.take i)++tk l:=by rw [ZeZ hi',hl]
    rw [Ji hi (by omega)]
    exact next hi' _ ⟨by rw [ht],hP',by rw [ht];exact hnd2,by rw [ht];exact hle2⟩
  refine Zb (fun hp=>?_) fun hp=>?_
  ·simp only [CQ] at hp
   obtain ⟨j,rfl⟩:∃ j,i=j+1:=⟨i-1,by omega⟩
   have hs:iop .sub .i64 ((j+1:Nat):Int) 1=(j:Int):=by rw [ZhN (by omega) (by omega)];omega
   rw [hs]
   have hj:j < es.length:=by omega
   refine Ze (ZX hj _) (Y6 fun hg=>hin (ZbU hi' hP he fun a ha hai=>?_))
   simp only [CQ,ev] at hg
   obtain rfl:a=j:=by omega
   omega
  ·simp only [CQ] at hp
   exact hin (ZbU hi' hP he fun a ha hai=>by omega)
 ·simp only [CQ] at hh
  have:i=es.length:=by omega
  subst this
  rw [XW] at hP hnd hle
  exact Zd fun _=>⟨by omega,by omega,by omega,hP.ok,hP.ord,hnd,hle⟩
theorem Zh8 {es:List Ep} (h:Few es):∀ i,i≤es.length→(tkF (es.take i)).length≤i*60
 | 0, _ => by simp [tkF]
 | i + 1, hi => by
  have:=Zh8 h i (by omega)
  obtain ⟨h1,h2,_⟩:=h.e _ (Xy (show i < es.length by omega))
  rw [ZbP (show i < es.length by omega),Xr]
  have h3:=Zjy (es[i].s++es[i].q)
  rw [Xr] at h3
  omega
theorem Zu3 (n:Int) (es:List Ep) (hf:Few es):Ret (fun b=>b=Xb→Vld n es) (g23 n (es.map ec)):=by
 rw [Zqa]
 refine Y6 fun h1=>Y6 fun h2=>Y6 fun h3=>?_
 simp only [CQ,Xi] at h1 h2 h3
 refine Zu (F:=fun k (s:LL) i=>ZpA k n (es.map ec) s i) es.length (fun i s=>s=Zn (tkF (es.take i))∧Pre n (es.take i)∧∀ t∈tkF (es.take i),t≤n) (by omega) (fun k i s hi hs next=>?_) E0 ⟨rfl,⟨(fun e he=>by simp at he),List.Pairwise.nil⟩,fun t ht=>by simp [tkF] at ht⟩
 obtain ⟨rfl,hP,hle⟩:=hs
 refine Ze (ZjB ..) (Zb (fun hh=>?_) fun hh=>?_)
 ·rw [Xi] at hh
  simp only [CQ] at hh
  have hi':i < es.length:=by omega
  obtain ⟨hf1,hf2,_⟩:=hf.e _ (Xy hi')
  have hgl:=Zh8 hf i (by omega)
  have hin:(0≤es[i].o∧es[i].o≤1099511627775)→(Zlk es[i]→Pre n (es.take (i+1)))→Ret (fun r=>r=Xb→Vld n es) ((g50 (ev es[i]).2.1).bind fun (r8:Bool)=>
    if (!r8)=Xb then Xa Xc else if (cop .gtr (Xh (ev es[i]).2.2.1:Int) 8)=Xb then Xa Xc else
    Zm (ZV E0 (ev es[i]).2.2.2 48)<|Zm (ZV (ev es[i]).2.2.2 (ev es[i]).2.2.1 48)<|
    WN (F23.lp [1,1,1,0] 0 r0 k) J6 n (es.map ec) (Zn (tkF (es.take i))) (i:Int) (ev es[i]).1 (ev es[i]).2.1 (ev es[i]).2.2.1 (ev es[i]).2.2.2 ((ev es[i]).2.2.2++(ev es[i]).2.2.1) 0):=fun ho hP'=>by
   refine Yc (ZuT es[i].v) fun r hr=>ZaL hr fun hv=>Y6 fun hq=>(Zc (ZD (by show 0+(es[i].s.map mc).length≤_;rw [Xi];omega) (by decide)) (Zc (ZD (by show (es[i].s.map mc).length+(es[i].q.map mc).length≤_;rw [Xi,Xi];omega) (by decide)) ?_))
   simp only [CQ,ev,Xi] at hq
   obtain ⟨l,hl⟩:∃ l,l=es[i].s++es[i].q:=⟨_,rfl⟩
   have hlm:(ev es[i]).2.2.2++(ev es[i]).2.2.1=l.map mc:=by rw [hl,XJ];rfl
   have hll:l.length=es[i].s.length+es[i].q.length:=by rw [hl,Xr]
   rw [hlm]
   refine Zu (F:=fun k' (s:LL) j=>WN (F23.lp [1,1,1,0] 0 r0 k) k' n (es.map ec) s (i:Int) (ev es[i]).1 (ev es[i]).2.1 (ev es[i]).2.2.1 (ev es[i]).2.2.2 (l.map mc) j) l.length
    (fun j s=>s=Zn (tkF (es.take i)++tk (l.take j))∧(∀ (a:Nat) (ha:a < l.length),a < j→KV l[a]∧(a < es[i].s.length→l[a].t≠0))∧∀ t∈tk (l.take j),t≤n) (by omega) (fun k' j s hj hs nx=>?_) _ ⟨by simp [tk],(fun a _ h=>by omega),fun t ht=>by simp [tk] at ht⟩
   obtain ⟨rfl,hms,hle2⟩:=hs
   refine Ze (ZiB ..) (Zb (fun hh=>?_) fun hh=>?_)
   ·rw [Xi] at hh
    simp only [CQ] at hh
    have hj':j < l.length:=by omega
    have htl:=Zjy (l.take j)
    rw [Xt] at htl
    refine Ze (Jo hj' _) (Yc (ZuU l[j]) fun r hr=>ZaL hr fun hmo=>Y6 fun hg=>?_)
    simp only [CQ,mv] at hg
    have hm0:=hmo.1
    have more:(j < es[i].s.length→l[j].t≠0)→Ret (fun r=>r=Xb→Vld n es) (if (cop .gtr (mv l[j]).1 0)=Xb then
      Zm (ZV (Zn (tkF (es.take i)++tk (l.take j))) (E0++[[AV.val (.int .i64 (mv l[j]).1)]]) 8)<|
      WN (F23.lp [1,1,1,0] 0 r0 k) k' n (es.map ec) (Zn (tkF (es.take i)++tk (l.take j))++(E0++[[AV.val (.int .i64 (mv l[j]).1)]])) (i:Int) (ev es[i]).1 (ev es[i]).2.1 (ev es[i]).2.2.1 (ev es[i]).2.2.2 (l.map mc) (iop .add .i64 (j:Int) 1)
      else WN (F23.lp [1,1,1,0] 0 r0 k) k' n (es.map ec) (Zn (tkF (es.take i)++tk (l.take j))) (i:Int) (ev es[i]).1 (ev es[i]).2.1 (ev es[i]).2.2.1 (ev es[i]).2.2.2 (l.map mc) (iop .add .i64 (j:Int) 1)):=fun hne=>by
     have hms2:∀ (a:Nat) (ha:a < l.length),a < j+1→KV l[a]∧(a < es[i].s.length→l[a].t≠0):=fun a ha haj=>by
      by_cases hae:a=j
      ·subst hae;exact ⟨hmo,hne⟩
      ·exact hms a ha (by omega)
     refine Zb (fun ht=>Zc (Wi (by simp [Zn];omega) (by decide)) ?_) fun ht=>?_
     ·simp only [CQ,mv] at ht
      rw [Ji hj (by omega)]
      refine nx hj' _ ⟨?_,hms2,?_⟩
      ·rw [YQ hj',if_neg (by omega),← Xw (tkF (es.take i)) (tk (l.take j)) [l[j].t],Ztz]
       rfl
      ·rw [YQ hj',if_neg (by omega)]
       intro t htm
       rcases Xs.1 htm with htm | htm
       ·exact hle2 t htm
       ·rw [XH] at htm;omega
     ·simp only [CQ,mv] at ht
      rw [Ji hj (by omega)]
      exact nx hj' _ ⟨by rw [YQ hj',if_pos (by omega)],hms2,by rw [YQ hj',if_pos (by omega)];exact hle2⟩
    refine Zb (fun hs=>Y6 fun h0=>more fun _=>?_) fun hs=>more fun h=>?_
    ·simp only [CQ,mv] at h0;exact h0
    ·simp only [CQ,ev,Xi] at hs;omega
   ·rw [Xi] at hh
    simp only [CQ] at hh
    have:j=l.length:=by omega
    subst this
    rw [XW] at hle2 ⊢
    have ht:tkF (es.take (i+1))=tkF (es.take i)++tk l:=by rw [ZbP hi',hl]
    have hok:Zlk es[i]:=⟨ho.1,ho.2,hv.1,hv.2,by omega,by omega,fun m hm=>by
     have:m∈l:=by rw [hl];simp [hm]
     obtain ⟨b,hb,rfl⟩:=Uz this
     exact (hms b hb hb).1,fun m hm=>by
     obtain ⟨b,hb,rfl⟩:=Uz hm
     have h1:b < l.length:=by omega
     have h2:l[b]=es[i].s[b]:=by simp only [hl];exact List.getElem_append_left hb
     rw [← h2]
     exact ⟨(hms b h1 h1).1,(hms b h1 h1).2 hb⟩⟩
    rw [Ji hi (by omega)]
    refine next hi' _ ⟨by rw [ht],hP' hok,?_⟩
    rw [ht]
    intro t htm
    rcases Xs.1 htm with htm | htm
    ·exact hle t htm
    ·exact hle2 t htm
  refine Ze (ZX hi' _) (Y6 fun ho1=>Y6 fun ho2=>Zb (fun hp=>?_) fun hp=>?_)
  ·simp only [CQ,ev] at hp ho1 ho2
   obtain ⟨j,rfl⟩:∃ j,i=j+1:=⟨i-1,by omega⟩
   have hs:iop .sub .i64 ((j+1:Nat):Int) 1=(j:Int):=by rw [ZhN (by omega) (by omega)];omega
   rw [hs]
   have hj:j < es.length:=by omega
   refine Ze (ZX hj _) (Y6 fun hg=>hin ⟨by omega,by omega⟩ fun he=>ZbU hi' hP he fun a ha hai=>?_)
   simp only [CQ,ev] at hg
   obtain rfl:a=j:=by omega
   omega
  ·simp only [CQ,ev] at hp ho1 ho2
   exact hin ⟨by omega,by omega⟩ fun he=>ZbU hi' hP he fun a ha hai=>by omega
 ·rw [Xi] at hh
  simp only [CQ] at hh
  have:i=es.length:=by omega
  subst this
  have hfl:=Zh8 hf es.length (XA _)
  rw [XW] at hP hle hfl ⊢
  have fin:(tkF es).Nodup→Vld n es:=fun hnd=>⟨by omega,by omega,by omega,hP.ok,hP.ord,(List.Perm.nodup_iff (Zaa es)).1 hnd,fun t ht=>hle t ((Zaa es).mem_iff.2 ht)⟩
  obtain ⟨K,hK⟩:∃ K,K=tkF es:=⟨_,rfl⟩
  rw [← hK] at hfl fin ⊢
  have hKl:(Zn K).length=K.length:=by simp [Zn]
  refine KM (F:=fun k (_:Unit) i=>Zlo k (Zn K) i) (n:=K.length) (fun i _=>∀ (a b:Nat) (ha:a < K.length) (hb:b < K.length),a < b→b < i→K[a]≠K[b]) (by omega) (fun k i _ hi hs next=>?_) (fun k _ hs=>?_) () (fun a b _ _ _ h=>by omega)
  ·refine Ze (ZbX ..) (Zb (fun _=>?_) fun hh=>?_)
   ·refine KM (F:=fun k' (_:Unit) j=>Zng (F23.lp [1,1,1,0,1,0] 0 r0 k) k' (Zn K) (i:Int) j) (n:=i) (fun j _=>∀ (a:Nat) (ha:a < K.length),a < j→K[a]≠K[i]) (by omega) (fun k' j _ hj hs2 nx=>?_) (fun k' _ hs2=>?_) () (fun a _ h=>by omega)
    ·refine Ze (ZbS ..) (Zb (fun _=>?_) fun hh=>?_)
     ·refine Ze (Kw hi _) (Ze (Kw (show j < K.length by omega) _) (Y6 fun he=>?_))
      simp only [CQ] at he
      rw [Zaf (by omega)]
      refine nx () fun a ha haj=>?_
      by_cases hae:a=j
      ·subst hae;exact fun h=>he h.symm
      ·exact hs2 a ha (by omega)
     ·simp only [CQ] at hh;omega
    ·refine Ze (ZbS ..) (Zb (fun hh=>?_) fun _=>?_)
     ·simp only [CQ] at hh;omega
     ·rw [Zaf (by omega)]
      refine next () fun a b ha hb hab hbi=>?_
      by_cases hbe:b=i
      ·subst hbe;exact hs2 a ha hab
      ·exact hs a b ha hb hab (by omega)
   ·rw [hKl] at hh;simp only [CQ] at hh;omega
  ·refine Ze (ZbX ..) (Zb (fun hh=>?_) fun _=>Zd fun _=>fin ?_)
   ·rw [hKl] at hh;simp only [CQ] at hh;omega
   ·rw [List.nodup_iff_pairwise_ne]
    exact UH.2 fun a b ha hb hab=>hs a b ha hb hab hb
theorem ZaJ (n:Int) (es:List Ep) (hf:Few es):Vld n es∨(g22 n (es.map ec)=Xa Xc∧g23 n (es.map ec)=Xa Xc):=by
 by_cases h:Vld n es
 ·exact .inl h
 ·refine .inr ⟨?_,?_⟩
  ·obtain ⟨r,e,hr⟩:=ZuR n es hf
   cases r
   ·exact e
   ·exact (h (hr rfl)).elim
  ·obtain ⟨r,e,hr⟩:=Zu3 n es hf
   cases r
   ·exact e
   ·exact (h (hr rfl)).elim
theorem Few.copy {es:List Ep} (h:Few es):∀ e∈es,e.q.length < 900∧e.s.length < 900∧(∀ m∈e.q,m.w.length≤1000)∧∀ m∈e.s,m.w.length≤1000:=fun e he=>by
 obtain ⟨h1,h2,h3⟩:=h.e e he
 exact ⟨by omega,by omega,fun m hm=>by have:=h3 m (by simp [hm]);omega,fun m hm=>by have:=h3 m (by simp [hm]);omega⟩
theorem ZnQ (n:Int) (es:List Ep) (h:Vld n es) (k:Nat) (hk:k < es.length):g51 n (es.map ec) es[k].o=Xa (k:Int):=by
 refine ZA ?_
 have hlen:=h.len
 rw [Zqf]
 refine Zu (F:=fun f (_:Unit) i=>ZmP f es[k].o n (es.map ec) i) es.length (fun i _=>i≤k) (by omega) (fun f i _ hi hik next=>?_) () (XZ _)
 refine Ze (ZjQ ..) (Zb (fun hh=>?_) fun hh=>?_)
 ·have hi':i < es.length:=by omega
  refine Ze (ZX hi' _) (Zb (fun h1=>?_) fun h1=>?_)
  ·simp only [CQ,ev] at h1
   by_cases hlt:i < k
   ·have:=UH.1 h.ord i k hi' hk hlt
    omega
   ·have:i=k:=by omega
    subst this
    exact Zd rfl
  ·simp only [CQ,ev] at h1
   rw [Ji hi (by omega)]
   refine next hi' () ?_
   by_cases hie:i=k
   ·subst hie;exact (h1 rfl).elim
   ·omega
 ·rw [Xi] at hh
  simp only [CQ] at hh;omega
theorem ZrX (n:Int) (es:List Ep) (hl:es.length < 900) (o:Int) (hno:∀ e∈es,e.o≠o):g51 n (es.map ec) o=Xa (-1):=by
 refine ZA ?_
 rw [Zqf]
 refine Zu (F:=fun f (_:Unit) i=>ZmP f o n (es.map ec) i) es.length (fun i _=>True) (by omega) (fun f i _ hi _ next=>?_) () trivial
 refine Ze (ZjQ ..) (Zb (fun hh=>?_) fun hh=>Zd rfl)
 rw [Xi] at hh
 simp only [CQ] at hh
 have hi':i < es.length:=by omega
 refine Ze (ZX hi' _) (Zb (fun h1=>?_) fun h1=>?_)
 ·simp only [CQ,ev] at h1;exact (hno _ (Xy hi') h1).elim
 ·rw [Ji hi (by omega)]
  exact next hi' () trivial
theorem hit (es:List Ep) (o:Int):(∃ k,∃ hk:k < es.length,es[k].o=o)∨∀ e∈es,e.o≠o:=by
 by_cases h:∃ e∈es,e.o=o
 ·obtain ⟨e,he,ho⟩:=h
  obtain ⟨k,hk,rfl⟩:=Uz he
  exact .inl ⟨k,hk,ho⟩
 ·exact .inr fun e he ho=>h ⟨e,he,ho⟩
def Wd (es:List Ep):Prop:=∀ e∈es,∀ m∈e.q++e.s,WOk m.w
theorem Vr {n:Int} {es:List Ep} (h:Vld n es) (hw:Wd es):Zc1 es:=
 ⟨by have:=h.len;omega,fun e he=>by have:=h.ok e he;have h1:=this.ql;have h2:=this.sl;exact ⟨by omega,by omega⟩,hw⟩
theorem ZS:Zc1 []:=⟨by decide,(fun e he=>by cases he),fun e he=>by cases he⟩
theorem s9l (n:Int) (es:List Ep) (h:Vld n es) (o v:Int) (h1:0≤o) (h2:o≤1099511627775) (h3:0≤v) (h4:v < 32) (hno:∀ e∈es,e.o≠o) (hl:es.length=32):g9 n (es.map ec) o v=Xa (0,E0,15):=by
 refine ZA ?_
 rw [ZkG]
 refine Za (s22 n es h) (Zb (fun h=>by cases h) fun _=>Za (s37 o h1 h2) (Zb (fun h=>by cases h) fun _=>Za (s38 v h3 h4) (Zb (fun h=>by cases h) fun _=>Za (s39 n es (by omega) h.ord) (Zc rfl ?_))))
 refine Ze (Yp (Zaw hno) _) (Zb (fun h=>by cases h) fun _=>Zb (fun _=>Zd rfl) fun hl2=>?_)
 simp only [CQ,Xi] at hl2;omega
theorem ZpH (l:List Ep) (w:Nat) (hw:w < l.length) (e:Ep):Zq (l.map ec) w 0 (ec e)=(l.set w e).map ec:=by
 have:(l.map ec)[w]? = Xa (ec l[w]):=by rw [Xl,Xq hw];rfl
 rw [show Zq (l.map ec) w 0 (ec e)=(l.map ec).modify w (fun x=>setCells x 0 (ec e)) from rfl,Jt this,Uv]
 rfl
theorem Znc (o v:Int) (es:List Ep) (k:Nat):(Zbg o v es k).length=es.length+1:=by
 have:es.length=(es.take k).length+(es.drop k).length:=by rw [← Xr,UI]
 unfold Zbg
 rw [Xr,XN]
 omega
theorem ZcJ {o v:Int} {es:List Ep} {i:Nat} (hi:i < es.length):Zbg o v es (i+1)=es.take i++es[i] :: ⟨o,v,[],[]⟩ :: es.drop (i+1):=by
 unfold Zbg
 rw [Um hi,Xw]
 rfl
theorem ZpQ {α:Type} {a:List α} {x:α} {b:List α} {i:Nat} (h:a.length=i):(a++x::b)[i]? = Xa x:=by
 subst h;simp
theorem ZmJ {α:Type} {a:List α} {x y:α} {b:List α} {i:Nat} (h:a.length=i):(a++x::y::b)[i+1]? = Xa y:=by
 subst h
 rw [XB (by omega)]
 simp
theorem ZiU {α:Type} {a:List α} {x y:α} {b:List α} {i:Nat} (h:a.length=i):((a++x::y::b).set (i+1) x).set i y=a++y::x::b:=by
 subst h
 rw [TE _ _ (by omega),show a.length+1-a.length=1 from by omega,TE _ _ (by omega),U3]
 rfl
theorem elem_at? {γ:Type} {l:List Ep} {i:Nat} {e:Ep} (h:l[i]? = Xa e) (k:Int×Int×LL×LL→Option γ):ZB (l.map ec) (i:Int) [.int .i64,.int .i64,.slice 4,.slice 4] k=k (ev e):=by
 obtain ⟨hi,rfl⟩:=Xn.1 h
 exact ZX hi k
theorem bub (n:Int) (es:List Ep) (h:Vld n es) (o v:Int) (hno:∀ e∈es,e.o≠o):∀ (i fuel:Nat),i < fuel→i≤es.length→(∀ (j:Nat) (hj:j < es.length),i≤j→o < es[j].o)→
  Ret (fun r=>∃ k,k≤es.length∧(∀ (j:Nat) (hj:j < es.length),j < k→es[j].o < o)∧(∀ (j:Nat) (hj:j < es.length),k≤j→o < es[j].o)∧r=(n,(Zbg o v es k).map ec,0)) (ZlF fuel 0 E0 n ((Zbg o v es i).map ec) (i:Int)):=by
 intro i
 have hlen:=h.len
 induction i with
 | zero =>
  intro fuel hf hi hb
  obtain ⟨f,rfl⟩:∃ f,fuel=f+1:=⟨fuel-1,by omega⟩
  refine Ze (ZjE ..) (Zb (fun hh=>?_) fun _=>Zd ⟨0,hi,(fun j _ h=>by omega),hb,rfl⟩)
  simp only [CQ] at hh;omega
 | succ i ih =>
  intro fuel hf hi hb
  obtain ⟨f,rfl⟩:∃ f,fuel=f+1:=⟨fuel-1,by omega⟩
  have hi':i < es.length:=by omega
  have hil:=Znc o v es (i+1)
  have htl:(es.take i).length=i:=by rw [Xt];omega
  have hsub:iop .sub .i64 ((i+1:Nat):Int) 1=(i:Int):=by rw [ZhN (by omega) (by omega)];omega
  have e1:(Zbg o v es (i+1))[i+1]? = Xa ⟨o,v,[],[]⟩:=by rw [ZcJ hi'];exact ZmJ htl
  have e0:(Zbg o v es (i+1))[i]? = Xa es[i]:=by rw [ZcJ hi'];exact ZpQ htl
  have q1:(0:Int)≤((i+1:Nat):Int):=by omega
  have q2:((i+1:Nat):Int) < (Xh ((Zbg o v es (i+1)).map ec):Int):=by rw [Xi];omega
  have q3:(0:Int)≤(i:Int):=by omega
  have q4:(i:Int) < (Xh ((Zbg o v es (i+1)).map ec):Int):=by rw [Xi];omega
  refine Ze (ZjE ..) (Zb (fun _=>?_) fun hh=>?_)
  ·rw [hsub]
   refine Zc q1 (Zc q2 (Ze (elem_at? e1 _) (Zc q3 (Zc q4 (Ze (elem_at? e0 _) (Zb (fun hlt=>?_) fun hge=>?_))))))
   ·simp only [CQ,ev] at hlt
    refine Zc q1 (Zc q2 (Ze (elem_at? e1 _) (Zc q3 (Zc q4 (Ze (elem_at? e0 _) ?_)))))
    have hs1:Zq ((Zbg o v es (i+1)).map ec) (Xg ((i+1:Nat):Int)) 0 [AV.val (.int .i64 (ev es[i]).1),AV.val (.int .i64 (ev es[i]).2.1),AV.slice Xc 4 (ev es[i]).2.2.1,AV.slice Xc 4 (ev es[i]).2.2.2]=((Zbg o v es (i+1)).set (i+1) es[i]).map ec:=by
     rw [XQ]
     exact ZpH _ _ (by omega) es[i]
    have hs2:Zq (((Zbg o v es (i+1)).set (i+1) es[i]).map ec) (Xg (i:Int)) 0 [AV.val (.int .i64 (ev ⟨o,v,[],[]⟩).1),AV.val (.int .i64 (ev ⟨o,v,[],[]⟩).2.1),AV.slice Xc 4 (ev ⟨o,v,[],[]⟩).2.2.1,AV.slice Xc 4 (ev ⟨o,v,[],[]⟩).2.2.2]=(Zbg o v es i).map ec:=by
     rw [XQ]
     refine (ZpH _ _ (by rw [Ud];omega) ⟨o,v,[],[]⟩).trans ?_
     rw [ZcJ hi',ZiU htl]
     unfold Zbg
     rw [TF hi']
    have q5:(i:Int) < (Xh (((Zbg o v es (i+1)).set (i+1) es[i]).map ec):Int):=by rw [Xi,Ud];omega
    rw [hs1]
    refine Zc q1 (Zc q2 (Zc q1 (Zc q2 (Zc q3 (Zc q5 (Zc q3 (Zc q5 ?_)))))))
    rw [hs2]
    refine ih f (by omega) (by omega) fun j hj hij=>?_
    by_cases hje:j=i
    ·subst hje;exact hlt
    ·exact hb j hj (by omega)
   ·simp only [CQ,ev] at hge
    have hne:=hno _ (Xy hi')
    refine Zd ⟨i+1,hi,fun j hj hji=>?_,hb,rfl⟩
    by_cases hje:j=i
    ·subst hje;omega
    ·have:=UH.1 h.ord j i hj hi' (by omega)
     omega
  ·simp only [CQ] at hh;omega
theorem Zr9 {o v:Int} {es:List Ep} {k:Nat} (h:Wd es):Wd (Zbg o v es k):=fun e he=>by
 rcases Xs.1 he with he | he
 ·exact h e (XP he)
 ·rcases Xu.1 he with rfl | he
  ·intro m hm;simp at hm
  ·exact h e (XS he)
theorem p9 (n:Int) (es:List Ep) (hf:Few es) (hw:Wd es) (o v:Int):∃ n' es' c,g9 n (es.map ec) o v=Xa (n',es'.map ec,c)∧g20 n (es.map ec) o v=Xa (n',es'.map ec,c)∧Zc1 es':=by
 rcases ZaJ n es hf with h | ⟨hA,hB⟩
 ·have hlen:=h.len
  by_cases ho:0≤o∧o≤1099511627775
  ·by_cases hv:0≤v∧v < 32
   ·have ref:∀ (P:Int×LL×Int→Prop) (x:Option (Int×LL×Int)),Ret P ((g51 n (es.map ec) o).bind fun (r6:Int)=>
      if (cop .geq r6 0)=Xb then Xa (0,E0,56) else if (cop .geq (Xh (es.map ec):Int) 32)=Xb then Xa (0,E0,15) else
      (g19 n (es.map ec)).bind fun (r7:Int×LL)=>
      Zm (ZV (Yl r7.2) (E0++[[AV.val (.int .i64 o),AV.val (.int .i64 v),AV.slice Xc 4 E0,AV.slice Xc 4 E0]]) 64)<|
      ZlF J6 0 E0 r7.1 ((Yl r7.2)++(E0++[[AV.val (.int .i64 o),AV.val (.int .i64 v),AV.slice Xc 4 E0,AV.slice Xc 4 E0]])) (iop .sub .i64 (Xh ((Yl r7.2)++(E0++[[AV.val (.int .i64 o),AV.val (.int .i64 v),AV.slice Xc 4 E0,AV.slice Xc 4 E0]])):Int) 1))→Ret P (g20 n (es.map ec) o v):=by
     intro P x hx
     rw [Zi0]
     refine Za (s23 n es h) (Zb (fun h=>by cases h) fun _=>Zb (fun hh=>?_) fun _=>Zb (fun hh=>?_) fun _=>Za (s50 v hv.1 hv.2) (Zb (fun h=>by cases h) fun _=>hx))
     ·simp only [CQ] at hh;omega
     ·simp only [CQ] at hh;omega
    rcases hit es o with ⟨k,hk,rfl⟩ | hno
    ·refine ⟨0,[],56,s9d n es h v k hk hv.1 hv.2,ZA (ref _ none ?_),ZS⟩
     refine Za (ZnQ n es h k hk) (Zb (fun _=>Zd rfl) fun hh=>?_)
     simp only [CQ] at hh;omega
    ·by_cases h32:es.length=32
     ·refine ⟨0,[],15,s9l n es h o v ho.1 ho.2 hv.1 hv.2 hno h32,ZA (ref _ none ?_),ZS⟩
      refine Za (ZrX n es (by omega) o hno) (Zb (fun hh=>by cases hh) fun _=>Zb (fun _=>Zd rfl) fun hh=>?_)
      rw [Xi] at hh
      simp only [CQ] at hh;omega
     ·obtain ⟨k,k1,k2,k3,hk⟩:=s9g n es h o v ho.1 ho.2 hv.1 hv.2 hno (by omega)
      refine ⟨n,Zbg o v es k,0,hk,ZA (ref _ none ?_),Vr (ZqG h ho.1 ho.2 hv.1 hv.2 (by omega) k1 k2 k3) (Zr9 hw)⟩
      refine Za (ZrX n es (by omega) o hno) (Zb (fun hh=>by cases hh) fun _=>Zb (fun hh=>?_) fun _=>Za (s19 n es (by omega) hf.copy) ?_)
      ·rw [Xi] at hh
       simp only [CQ] at hh;omega
      have happ:Yl (es.map en)++(E0++[[AV.val (.int .i64 o),AV.val (.int .i64 v),AV.slice Xc 4 E0,AV.slice Xc 4 E0]])=(Zbg o v es es.length).map ec:=by
       rw [Zcz]
       unfold Zbg
       rw [XW,List.drop_length,XJ]
       rfl
      rw [show (n,es.map en).2=es.map en from rfl,happ]
      have hsub:iop .sub .i64 (Xh ((Zbg o v es es.length).map ec):Int) 1=(es.length:Int):=by
       rw [Xi,Znc,ZhN (by omega) (by omega)];omega
      rw [hsub]
      refine Zc (ZD (by rw [Zcz];simp;omega) (by decide)) ?_
      obtain ⟨r,e,k',k1',k2',k3',rfl⟩:=bub n es h o v hno es.length J6 (by have:=ZiL (n:=es.length) (by omega);omega) (XA _) (fun j hj hij=>by omega)
      refine Ze e (Zd ?_)
      have:k'=k:=by
       rcases Nat.lt_trichotomy k k' with hlt | heq | hgt
       ·have:=k2' k (by omega) hlt
        have:=k3 k (by omega) (XA _)
        omega
       ·exact heq.symm
       ·have:=k2 k' (by omega) hgt
        have:=k3' k' (by omega) (XA _)
        omega
      rw [this]
   ·refine ⟨0,[],1,ZA ?_,ZA ?_,ZS⟩
    ·rw [ZkG]
     exact Za (s22 n es h) (Zb (fun h=>by cases h) fun _=>Za (s37 o ho.1 ho.2) (Zb (fun h=>by cases h) fun _=>Za (Ztj v hv) (Zb (fun _=>Zd rfl) fun h=>(h rfl).elim)))
    ·rw [Zi0]
     refine Za (s23 n es h) (Zb (fun h=>by cases h) fun _=>Zb (fun hh=>Zd rfl) fun _=>Zb (fun hh=>Zd rfl) fun _=>Za (Zs7 v hv) (Zb (fun _=>Zd rfl) fun h=>(h rfl).elim))
  ·refine ⟨0,[],1,ZA ?_,ZA ?_,ZS⟩
   ·rw [ZkG]
    exact Za (s22 n es h) (Zb (fun h=>by cases h) fun _=>Za (Zum o ho) (Zb (fun _=>Zd rfl) fun h=>(h rfl).elim))
   ·rw [Zi0]
    refine Za (s23 n es h) (Zb (fun h=>by cases h) fun _=>Zb (fun hh=>Zd rfl) fun h1=>Zb (fun hh=>Zd rfl) fun h2=>?_)
    simp only [CQ] at h1 h2;omega
 ·refine ⟨0,[],74,?_,?_,ZS⟩
  ·rw [ZkG,hA];rfl
  ·rw [Zi0,hB];rfl
theorem ZoG (l:List (Int×Int)):l.map oc=(l.map fun p=>((p.1,p.2,16,E0):Int×Int×Int×LL)).map os:=by
 rw [Uf];rfl
theorem KR:WOk []:=⟨[],rfl,by decide⟩
theorem s56 (o v:Int) (q s:List Ms) (hq:q.length≤400) (hs:s.length≤400):g56 o v (q.map mc) (s.map mc)=Xa ((outs (s++q)).map oc):=by
 refine ZA ?_
 rw [Zst]
 refine Zc (ZD (by simp;omega) (by decide)) (Zc (ZD (by simp;omega) (by decide)) ?_)
 obtain ⟨l,hl⟩:∃ l,l=s++q:=⟨_,rfl⟩
 have hll:l.length≤800:=by rw [hl,Xr];omega
 rw [← XJ,← hl]
 refine Zu (F:=fun k (x:LL) i=>ZlA k x (l.map mc) i) l.length (fun i x=>x=(outs (l.take i)).map oc) (by omega) (fun k i x hi hx next=>?_) E0 (by simp [outs])
 subst hx
 refine Ze (ZnW ..) (Zb (fun hh=>?_) fun hh=>?_)
 ·rw [Xi] at hh
  simp only [CQ] at hh
  have hi':i < l.length:=by omega
  have hlen:=Ve (l.take i)
  rw [Xt] at hlen
  refine Ze (Jo hi' _) (Zb (fun ht=>?_) fun ht=>?_)
  ·simp only [CQ,mv] at ht
   refine Ze (Jo hi' _) (Ze (Jo hi' _) (Zc (ZD (by simp;omega) (by decide)) ?_))
   rw [Ji hi (by omega)]
   refine next hi' _ ?_
   rw [W2 hi',if_pos ht,XJ]
   rfl
  ·simp only [CQ,mv] at ht
   rw [Ji hi (by omega)]
   exact next hi' _ (by rw [W2 hi',if_neg (by omega)])
 ·rw [Xi] at hh
  simp only [CQ] at hh
  have:i=l.length:=by omega
  subst this
  rw [XW]
  exact Zd rfl
theorem ZpM {es es':List Ep} (h:Wd es) (hs:∀ e∈es',∃ e0∈es,∀ m∈e.q++e.s,m∈e0.q++e0.s):Wd es':=fun e he m hm=>by
 obtain ⟨e0,he0,h0⟩:=hs e he
 exact h e0 he0 m (h0 m hm)
theorem p24 (n:Int) (es:List Ep) (hf:Few es) (hw:Wd es) (o:Int):∃ (n':Int) (es':List Ep) (l:List (Int×Int×Int×LL)) (c:Int),g24 n (es.map ec) o=Xa (n',es'.map ec,l.map os,c)∧g25 n (es.map ec) o=Xa (n',es'.map ec,l.map os,c)∧Zc1 es'∧l.length≤100000∧∀ p∈l,WOk p.2.2.2:=by
 rcases ZaJ n es hf with h | ⟨hA,hB⟩
 ·have hlen:=h.len
  rcases hit es o with ⟨k,hk,rfl⟩ | hno
  ·have hok:=h.ok _ (Xy hk)
   have hol:=Ve (es[k].s++es[k].q)
   have hql:=hok.ql
   have hsl:=hok.sl
   rw [Xr] at hol
   refine ⟨n,es.take k++es.drop (k+1),_,0,ZoG _ ▸ s24 n es h k hk,ZA ?_,Vr (Zir h hk) (ZpM hw fun e he=>⟨e,?_,fun m hm=>hm⟩),by rw [Xi];omega,fun p hp=>?_⟩
   ·rw [Zl0]
    refine Za (s23 n es h) (Zb (fun h=>by cases h) fun _=>Za (ZnQ n es h k hk) (Zb (fun hh=>?_) fun _=>Za (s19 n es (by omega) hf.copy) ?_))
    ·simp only [CQ] at hh;omega
    rw [Zcz,Zaf (by omega),XQ,XQ,← ZoG]
    refine Zc (by omega) (Zc (by rw [Xi];omega) (Ze (ZX hk _) (Za (s56 _ _ es[k].q es[k].s (by omega) hsl) (Zc (by omega) (Zc (by rw [Xi];omega) (Zd ?_))))))
    rw [← Ui,← Ut,← XJ]
   ·rcases Xs.1 he with he | he
    ·exact XP he
    ·exact XS he
   ·obtain ⟨p0,_,rfl⟩:=Xm.1 hp
    exact KR
  ·refine ⟨0,[],[],17,Zvi n es h o hno,ZA ?_,ZS,by decide,fun p hp=>by cases hp⟩
   rw [Zl0]
   exact Za (s23 n es h) (Zb (fun h=>by cases h) fun _=>Za (ZrX n es (by omega) o hno) (Zb (fun _=>Zd rfl) fun h=>(h rfl).elim))
 ·refine ⟨0,[],[],74,?_,?_,ZS,by decide,fun p hp=>by cases hp⟩
  ·rw [Zk1,hA];rfl
  ·rw [Zl0,hB];rfl
theorem Zlb {es:List Ep} (h:Wd es) {k:Nat} {e:Ep} (he:∀ m∈e.q++e.s,WOk m.w):Wd (es.set k e):=fun x hx=>by
 rcases Ue hx with hx | rfl
 ·exact h x hx
 ·exact he
theorem ZtY (n:Int) (es:List Ep) (h:Vld n es) (o c:Int) (w:LL) (s:Int) (b:Bool) (hm:¬ KV ⟨0,c,w,s⟩):g42 n (es.map ec) o 0 c w s b=Xa (0,E0,1):=by
 refine ZA ?_
 rw [Zaz]
 exact Za (s22 n es h) (Zb (fun h=>by cases h) fun _=>Za (Zt0 ⟨0,c,w,s⟩ hm) (Zb (fun _=>Zd rfl) fun h=>(h rfl).elim))
theorem ZuG (n:Int) (es:List Ep) (h:Vld n es) (k:Nat) (hk:k < es.length) (c:Int) (w:LL) (s:Int) (hm:KV ⟨0,c,w,s⟩) (hq:es[k].q.length < 8) (hv:es[k].v≠c) (hn:n=1099511627776) :
  g12 n (es.map ec) es[k].o c w s=Xa (0,E0,0,15):=by
 refine ZA ?_
 rw [ZcY]
 refine Yc (Q:=fun r=>r=(0,E0,15)) ?_ fun r hr=>Zd (by rw [hr])
 rw [Zaz]
 have hlen:=h.len
 refine Za (s22 n es h) (Zb (fun h=>by cases h) fun _=>Za (s69 ⟨0,c,w,s⟩ hm) (Zb (fun h=>by cases h) fun _=>Za (s39 n es (by omega) h.ord) (Zc rfl ?_)))
 refine Ze (Yp (WB hk h.ord) _) (Zb (fun h=>by cases h) fun _=>Ze (ZX hk _) (Zb (fun h8=>?_) fun _=>Zb (fun _=>?_) fun h=>(h rfl).elim))
 ·simp only [CQ,ev,Xi] at h8;omega
 refine Ze (ZX hk _) (Zb (fun hb=>?_) fun _=>Zb (fun _=>Zb (fun _=>Zd rfl) fun hb=>?_) fun h=>(h rfl).elim)
 ·simp only [CQ,ev] at hb;exact (hv hb).elim
 ·simp only [CQ] at hb;omega
theorem Zha {P:Int×LL×Int×Int→Prop} (N T:Int) (es:List Ep) (k:Nat) (hk:k < es.length) (m:Ms) (hq:es[k].q.length≤100) (h:P (N,(es.set k { es[k] with q:=es[k].q++[m] }).map ec,T,0)) :
  Ret P (Zm ((0:Int)≤(k:Int))<|Zm ((k:Int) < (Xh (es.map en):Int))<|Zm ((0:Int)≤(k:Int))<|Zm (qop (.nst 2 4 41) (es.map en) (k:Int)=Xb)<|
   Zm (ZV (Yi (es.map en) (Xg (k:Int)) 2) (E0++[mc m]) 48)<|Zm ((0:Int)≤(k:Int))<|
   Zm ((k:Int) < (Xh (Jj (es.map en) (Xg (k:Int)) 2 (AV.nest 4 Xc 41 E0)):Int))<|Zm ((0:Int)≤(k:Int))<|
   Zm ((k:Int) < (Xh (Jj (es.map en) (Xg (k:Int)) 2 (AV.nest 4 Xc 41 E0)):Int))<|
   Xa (N,Yl (Jj (Jj (es.map en) (Xg (k:Int)) 2 (AV.nest 4 Xc 41 E0)) (Xg (k:Int)) 2 (AV.nest 4 Xb 41 ((Yi (es.map en) (Xg (k:Int)) 2)++(E0++[mc m])))),T,0)):=by
 have hat:=ZhD hk
 have hlen:k < (es.map en).length:=by simpa using hk
 have hg:Yi (es.map en) k 2=es[k].q.map mc:=by
  unfold Yi
  rw [hat]
  rfl
 have hp1:Jj (es.map en) k 2 (AV.nest 4 Xc 41 E0)=(es.map en).set k [I es[k].o,I es[k].v,.nest 4 Xc 41 [],.nest 4 Xb 41 (es[k].s.map mc)]:=Jt hat
 have hp2:Jj ((es.map en).set k [I es[k].o,I es[k].v,.nest 4 Xc 41 [],.nest 4 Xb 41 (es[k].s.map mc)]) k 2 (AV.nest 4 Xb 41 ((es[k].q++[m]).map mc)) =
   (es.map en).set k (en { es[k] with q:=es[k].q++[m] }):=by
  have:Jj ((es.map en).set k [I es[k].o,I es[k].v,.nest 4 Xc 41 [],.nest 4 Xb 41 (es[k].s.map mc)]) k 2 (AV.nest 4 Xb 41 ((es[k].q++[m]).map mc))=((es.map en).set k _).set k (en { es[k] with q:=es[k].q++[m] }):=Jt (YO hlen)
  rw [this,UU]
 have r1:(0:Int)≤(k:Int):=UL k
 have r2:(k:Int) < (Xh (es.map en):Int):=by omega
 have hm:es[k].q.map mc++(E0++[mc m])=(es[k].q++[m]).map mc:=by simp
 rw [XQ,hg,hm,hp1,hp2,Ud]
 refine Zc r1 (Zc r2 (Zc r1 (Zc ?_ (Zc (ZD (by simp;omega) (by decide)) (Zc r1 (Zc r2 (Zc r1 (Zc r2 ?_))))))))
 ·exact KP hat rfl
 ·rw [V3 es k { es[k] with q:=es[k].q++[m] } rfl]
  exact Zd h
theorem Zt9 (n:Int) (es:List Ep) (h:Vld n es) (o c:Int) (w:LL) (s:Int) (b:Bool) (hm:¬ KV ⟨0,c,w,s⟩):g57 n (es.map ec) o 0 c w s b=Xa (0,E0,0,1):=by
 refine ZA ?_
 rw [Zae]
 exact Za (s23 n es h) (Zb (fun h=>by cases h) fun _=>Za (ZtZ ⟨0,c,w,s⟩ hm) (Zb (fun _=>Zd rfl) fun h=>(h rfl).elim))
theorem Zua (n:Int) (es:List Ep) (h:Vld n es) (o c:Int) (w:LL) (s:Int) (b:Bool) (hm:KV ⟨0,c,w,s⟩) (hno:∀ e∈es,e.o≠o):g57 n (es.map ec) o 0 c w s b=Xa (0,E0,0,17):=by
 refine ZA ?_
 have hlen:=h.len
 rw [Zae]
 exact Za (s23 n es h) (Zb (fun h=>by cases h) fun _=>Za (s53 ⟨0,c,w,s⟩ hm) (Zb (fun h=>by cases h) fun _=>Za (ZrX n es (by omega) o hno) (Zb (fun _=>Zd rfl) fun h=>(h rfl).elim)))
theorem Zt4 (n:Int) (es:List Ep) (h:Vld n es) (k:Nat) (hk:k < es.length) (c:Int) (w:LL) (s:Int) (b:Bool) (hm:KV ⟨0,c,w,s⟩) (hq:es[k].q.length=8):g57 n (es.map ec) es[k].o 0 c w s b=Xa (0,E0,0,65):=by
 refine ZA ?_
 rw [Zae]
 refine Za (s23 n es h) (Zb (fun h=>by cases h) fun _=>Za (s53 ⟨0,c,w,s⟩ hm) (Zb (fun h=>by cases h) fun _=>Za (ZnQ n es h k hk) (Zb (fun hh=>?_) fun _=>Ze (ZX hk _) (Zb (fun _=>Zd rfl) fun h8=>?_))))
 ·simp only [CQ] at hh;omega
 ·simp only [CQ,ev,Xi] at h8;omega
theorem Zus (n:Int) (es:List Ep) (h:Vld n es) (hf:Few es) (k:Nat) (hk:k < es.length) (c:Int) (w:LL) (s:Int) (hm:KV ⟨0,c,w,s⟩) (hq:es[k].q.length < 8):g57 n (es.map ec) es[k].o 0 c w s Xc=Xa (n,(es.set k { es[k] with q:=es[k].q++[⟨0,c,w,s⟩] }).map ec,0,0):=by
 refine ZA ?_
 have hlen:=h.len
 have hwl:w.length≤8:=hm.2.2.2.1
 rw [Zae]
 refine Za (s23 n es h) (Zb (fun h=>by cases h) fun _=>Za (s53 ⟨0,c,w,s⟩ hm) (Zb (fun h=>by cases h) fun _=>Za (ZnQ n es h k hk) (Zb (fun hh=>?_) fun _=>Ze (ZX hk _) (Zb (fun h8=>?_) fun _=>?_))))
 ·simp only [CQ] at hh;omega
 ·simp only [CQ,ev,Xi] at h8;omega
 refine Zb (fun h=>by cases h) fun _=>Zb (fun h=>by cases h) fun _=>Za (s19 n es (by omega) hf.copy) (Zb (fun h=>by cases h) fun _=>Zc (ZD (by simp;omega) (by decide)) ?_)
 exact Zha n 0 es k hk ⟨0,c,w,s⟩ (by omega) rfl
theorem ZuX (n:Int) (es:List Ep) (h:Vld n es) (k:Nat) (hk:k < es.length) (w:LL) (s:Int) (hm:KV ⟨0,es[k].v,w,s⟩) (hq:es[k].q.length < 8):g57 n (es.map ec) es[k].o 0 es[k].v w s Xb=Xa (0,E0,0,4):=by
 refine ZA ?_
 rw [Zae]
 refine Za (s23 n es h) (Zb (fun h=>by cases h) fun _=>Za (s53 ⟨0,es[k].v,w,s⟩ hm) (Zb (fun h=>by cases h) fun _=>Za (ZnQ n es h k hk) (Zb (fun hh=>?_) fun _=>Ze (ZX hk _) (Zb (fun h8=>?_) fun _=>Zb (fun _=>?_) fun h=>(h rfl).elim))))
 ·simp only [CQ] at hh;omega
 ·simp only [CQ,ev,Xi] at h8;omega
 refine Ze (ZX hk _) (Zb (fun hb=>Zd rfl) fun hb=>?_)
 exact (hb (by simp only [CQ,ev])).elim
theorem Zu4 (n:Int) (es:List Ep) (h:Vld n es) (k:Nat) (hk:k < es.length) (c:Int) (w:LL) (s:Int) (hm:KV ⟨0,c,w,s⟩) (hq:es[k].q.length < 8) (hv:es[k].v≠c) (hn:n=1099511627776):g57 n (es.map ec) es[k].o 0 c w s Xb=Xa (0,E0,0,15):=by
 refine ZA ?_
 rw [Zae]
 refine Za (s23 n es h) (Zb (fun h=>by cases h) fun _=>Za (s53 ⟨0,c,w,s⟩ hm) (Zb (fun h=>by cases h) fun _=>Za (ZnQ n es h k hk) (Zb (fun hh=>?_) fun _=>Ze (ZX hk _) (Zb (fun h8=>?_) fun _=>Zb (fun _=>?_) fun h=>(h rfl).elim))))
 ·simp only [CQ] at hh;omega
 ·simp only [CQ,ev,Xi] at h8;omega
 refine Ze (ZX hk _) (Zb (fun hb=>?_) fun _=>Zb (fun _=>Zb (fun _=>Zd rfl) fun hb=>?_) fun h=>(h rfl).elim)
 ·simp only [CQ,ev] at hb;exact (hv hb).elim
 ·simp only [CQ] at hb;omega
theorem ZuN (n:Int) (es:List Ep) (h:Vld n es) (hf:Few es) (k:Nat) (hk:k < es.length) (c:Int) (w:LL) (s:Int) (hm:KV ⟨0,c,w,s⟩) (hq:es[k].q.length < 8) (hv:es[k].v≠c) (hn:n < 1099511627776) :
  g57 n (es.map ec) es[k].o 0 c w s Xb=Xa (n+1,(es.set k { es[k] with q:=es[k].q++[⟨n+1,c,w,s⟩] }).map ec,n+1,0):=by
 refine ZA ?_
 have hlen:=h.len
 have hn0:=h.n0
 have hwl:w.length≤8:=hm.2.2.2.1
 have hadd:iop .add .i64 n 1=n+1:=Zni (by omega) (by omega)
 rw [Zae]
 refine Za (s23 n es h) (Zb (fun h=>by cases h) fun _=>Za (s53 ⟨0,c,w,s⟩ hm) (Zb (fun h=>by cases h) fun _=>Za (ZnQ n es h k hk) (Zb (fun hh=>?_) fun _=>Ze (ZX hk _) (Zb (fun h8=>?_) fun _=>Zb (fun _=>?_) fun h=>(h rfl).elim))))
 ·simp only [CQ] at hh;omega
 ·simp only [CQ,ev,Xi] at h8;omega
 refine Ze (ZX hk _) (Zb (fun hb=>?_) fun _=>Zb (fun _=>Zb (fun hb=>?_) fun _=>?_) fun h=>(h rfl).elim)
 ·simp only [CQ,ev] at hb;exact (hv hb).elim
 ·simp only [CQ] at hb;omega
 refine Za (s19 n es (by omega) hf.copy) (Zb (fun _=>Zc (ZD (by simp;omega) (by decide)) ?_) fun h=>(h rfl).elim)
 rw [show iop .add .i64 (n,es.map en).1 1=n+1 from hadd]
 exact Zha (n+1) (n+1) es k hk ⟨n+1,c,w,s⟩ (by omega) rfl
theorem Zql {es:List Ep} (hw:Wd es) {k:Nat} (hk:k < es.length) {m:Ms} (hm:WOk m.w):Wd (es.set k { es[k] with q:=es[k].q++[m] }):=
 Zlb hw fun x hx=>by
  have h0:=hw _ (Xy hk)
  rcases Xs.1 hx with hx | hx
  ·rcases Xs.1 hx with hx | hx
   ·exact h0 x (by simp [hx])
   ·rw [XH] at hx;subst hx;exact hm
  ·exact h0 x (by simp [hx])
theorem p13 (n:Int) (es:List Ep) (hf:Few es) (hw:Wd es) (o c:Int) (w:LL) (s:Int) (hwd:WOk w):∃ (n':Int) (es':List Ep) (r:Int),g13 n (es.map ec) o c w s=Xa (n',es'.map ec,r)∧g27 n (es.map ec) o c w s=Xa (n',es'.map ec,r)∧Zc1 es':=by
 rcases ZaJ n es hf with h | ⟨hA,hB⟩
 ·by_cases hm:KV ⟨0,c,w,s⟩
  ·rcases hit es o with ⟨k,hk,rfl⟩ | hno
   ·have hok:=h.ok _ (Xy hk)
    by_cases hq:es[k].q.length=8
    ·exact ⟨0,[],65,ZuC n es h k hk c w s hm hq,by rw [Zge,Zt4 n es h k hk c w s Xc hm hq];rfl,ZS⟩
    ·have hq':es[k].q.length < 8:=by have:=hok.ql;omega
     exact ⟨n,_,0,s13 n es h k hk c w s hm hq',by rw [Zge,Zus n es h hf k hk c w s hm hq'];rfl,Vr (ZoQ h hk hm rfl hq') (Zql hw hk hwd)⟩
   ·exact ⟨0,[],17,Zvf n es h o c w s hm hno,by rw [Zge,Zua n es h o c w s Xc hm hno];rfl,ZS⟩
  ·exact ⟨0,[],1,by rw [Zgr,ZtY n es h o c w s Xc hm];rfl,by rw [Zge,Zt9 n es h o c w s Xc hm];rfl,ZS⟩
 ·refine ⟨0,[],74,?_,?_,ZS⟩
  ·rw [Zgr,Zaz,hA];rfl
  ·rw [Zge,Zae,hB];rfl
theorem p12 (n:Int) (es:List Ep) (hf:Few es) (hw:Wd es) (o c:Int) (w:LL) (s:Int) (hwd:WOk w):∃ (n':Int) (es':List Ep) (t r:Int),g12 n (es.map ec) o c w s=Xa (n',es'.map ec,t,r)∧g28 n (es.map ec) o c w s=Xa (n',es'.map ec,t,r)∧Zc1 es':=by
 rcases ZaJ n es hf with h | ⟨hA,hB⟩
 ·have hn1:=h.n1
  have hn0:=h.n0
  by_cases hm:KV ⟨0,c,w,s⟩
  ·rcases hit es o with ⟨k,hk,rfl⟩ | hno
   ·have hok:=h.ok _ (Xy hk)
    by_cases hq:es[k].q.length=8
    ·exact ⟨0,[],0,65,Zvb n es h k hk c w s hm hq,by rw [Zda,Zt4 n es h k hk c w s Xb hm hq];rfl,ZS⟩
    ·have hq':es[k].q.length < 8:=by have:=hok.ql;omega
     by_cases hv:es[k].v=c
     ·subst hv
      exact ⟨0,[],0,4,ZuE n es h k hk w s hm hq',by rw [Zda,ZuX n es h k hk w s hm hq'];rfl,ZS⟩
     ·by_cases hn:n=1099511627776
      ·exact ⟨0,[],0,15,ZuG n es h k hk c w s hm hq' hv hn,by rw [Zda,Zu4 n es h k hk c w s hm hq' hv hn];rfl,ZS⟩
      ·have hm2:KV ⟨n+1,c,w,s⟩:=⟨by show 0≤n+1;omega,hm.2⟩
       exact ⟨n+1,_,n+1,0,s12 n es h k hk c w s hm hq' hv (by omega),by rw [Zda,ZuN n es h hf k hk c w s hm hq' hv (by omega)];rfl,Vr (Zn1 h hk hm2 rfl (by omega) hq') (Zql hw hk hwd)⟩
   ·exact ⟨0,[],0,17,Zu6 n es h o c w s hm hno,by rw [Zda,Zua n es h o c w s Xb hm hno];rfl,ZS⟩
  ·exact ⟨0,[],0,1,by rw [ZcY,ZtY n es h o c w s Xb hm];rfl,by rw [Zda,Zt9 n es h o c w s Xb hm];rfl,ZS⟩
 ·refine ⟨0,[],0,74,?_,?_,ZS⟩
  ·rw [ZcY,Zaz,hA];rfl
  ·rw [Zda,Zae,hB];rfl
theorem Zup (n:Int) (es:List Ep) (h:Vld n es) (hf:Few es) (k:Nat) (hk:k < es.length) (m:Ms) (q:List Ms) (hq:es[k].q=m::q) :
  g29 n (es.map ec) es[k].o es[k].v=Xa (n,(es.set k (Zbd es[k] m q)).map ec,m.t,m.c,m.w,m.s,0):=by
 refine ZA ?_
 have hlen:=h.len
 have hat:=ZhD hk
 have hlk:k < (es.map en).length:=by simpa using hk
 have hok:=h.ok _ (Xy hk)
 have hmok:KV m:=hok.qm m (by rw [hq];simp)
 have r1:(0:Int)≤(k:Int):=UL k
 have r2:(k:Int) < (Xh (es.map en):Int):=by omega
 rw [ZiJ]
 refine Za (s23 n es h) (Zb (fun h=>by cases h) fun _=>Za (ZnQ n es h k hk) (Zb (fun hh=>?_) fun _=>Ze (ZX hk _) (Zb (fun h8=>?_) fun _=>Ze (ZX hk _) (Zb (fun h8=>?_) fun _=>?_))))
 ·simp only [CQ] at hh;omega
 ·simp only [CQ,ev] at h8;exact (h8 rfl).elim
 ·simp only [CQ,ev,Xi,hq,XN] at h8;omega
 refine Za (s19 n es (by omega) hf.copy) ?_
 obtain ⟨R1,hR1⟩:∃ R:List AV,R = [I es[k].o,I es[k].v,.slice Xc 4 (es[k].q.map mc),.nest 4 Xb 41 (es[k].s.map mc)]:=⟨_,rfl⟩
 obtain ⟨R2,hR2⟩:∃ R:List AV,R = [I es[k].o,I es[k].v,.slice Xc 4 (q.map mc),.nest 4 Xb 41 (es[k].s.map mc)]:=⟨_,rfl⟩
 obtain ⟨R3,hR3⟩:∃ R:List AV,R = [I es[k].o,I es[k].v,.slice Xc 4 (q.map mc),.nest 4 Xc 41 []]:=⟨_,rfl⟩
 have hf1:JZ (es.map en) k 2 1=(es.map en).set k R1:=by rw [hR1];exact Jt hat
 have hf2:JZ ((es.map en).set k R1) k 2 1=(es.map en).set k R1:=ZbL (YO hlk) (by rw [hR1];rfl)
 have hel:∀ {γ:Type} (f:LL→Option γ),ZB (Zdx ((es.map en).set k R1) 2 1) (k:Int) [.slice 4] f=f (es[k].q.map mc):=fun f=>JS (sh:=[.slice 4]) f r1 (cs:=[.slice Xc 4 (es[k].q.map mc)]) (by
  rw [XQ]
  unfold Zdx
  rw [Xl,YO hlk,hR1]
  rfl) rfl
 have hse:Zq ((es.map en).set k R1) k 2 [AV.slice Xc 4 (q.map mc)]=(es.map en).set k R2:=by
  have hb:((es.map en).set k R1)[k]? = Xa R1:=YO hlk
  have:Zq ((es.map en).set k R1) k 2 [AV.slice Xc 4 (q.map mc)]=((es.map en).set k R1).set k (setCells R1 2 [AV.slice Xc 4 (q.map mc)]):=Jt hb
  rw [this,UU,hR1,hR2]
  rfl
 have hdrop:Uh (Xg 1) (es[k].q.map mc)=q.map mc:=by rw [hq];rfl
 have hqm:es[k].q.map mc=mc m::q.map mc:=by rw [hq];rfl
 have hqop:qop (.nst 3 4 41) ((es.map en).set k R2) (k:Int)=Xb:=KP (YO hlk) (by rw [hR2];rfl)
 have hg3:Yi ((es.map en).set k R2) k 3=es[k].s.map mc:=by
  unfold Yi
  rw [YO hlk,hR2]
  rfl
 have hp3:Jj ((es.map en).set k R2) k 3 (AV.nest 4 Xc 41 E0)=(es.map en).set k R3:=by
  have:Jj ((es.map en).set k R2) k 3 (AV.nest 4 Xc 41 E0)=((es.map en).set k R2).set k (setCells R2 3 [AV.nest 4 Xc 41 E0]):=Jt (YO hlk)
  rw [this,UU,hR2,hR3]
  rfl
 have hp4:Jj ((es.map en).set k R3) k 3 (AV.nest 4 Xb 41 ((es[k].s++[m]).map mc))=(es.map en).set k [I es[k].o,I es[k].v,.slice Xc 4 (q.map mc),.nest 4 Xb 41 ((es[k].s++[m]).map mc)]:=by
  have:Jj ((es.map en).set k R3) k 3 (AV.nest 4 Xb 41 ((es[k].s++[m]).map mc))=((es.map en).set k R3).set k (setCells R3 3 [AV.nest 4 Xb 41 ((es[k].s++[m]).map mc)]):=Jt (YO hlk)
  rw [this,UU,hR3]
  rfl
 have hsm:es[k].s.map mc++(E0++[mc m])=(es[k].s++[m]).map mc:=by simp
 have r3:∀ R,(k:Int) < (((es.map en).set k R).length:Int):=fun R=>by rw [Ud];omega
 rw [XQ,hf1,hf2]
 refine Zc r1 (Zc r2 (Ze (hel _) (Ze (JS (sh:=[.int .i64,.int .i64,.slice 1,.int .i64]) (r:=mv m) (cs:=mc m) _ (by decide) (by rw [hqm];rfl) rfl) (Ze (hel _) (Zc (by decide) (Zc (by rw [hqm,XN];omega) (Zc r1 (Zc (r3 _) ?_))))))))
 rw [hdrop,hse]
 refine Zb (fun ht=>?_) fun ht=>?_
 ·simp only [CQ,mv] at ht
  refine Zc r1 (Zc hqop (Zc (ZD ?_ (by decide)) (Zc r1 (Zc ?_ (Zd ?_)))))
  ·rw [hg3];have:=hok.sl;simp;omega
  ·rw [hp3];exact r3 _
  ·rw [hg3,hp3,show ([AV.val (.int .i64 (mv m).1),AV.val (.int .i64 (mv m).2.1),AV.slice Xc 1 (mv m).2.2.1,AV.val (.int .i64 (mv m).2.2.2)] : List AV)=mc m from rfl,hsm,hp4,V3 es k (Zbd es[k] m q) (by unfold Zbd;rw [if_pos ht];rfl)]
   rfl
 ·simp only [CQ,mv] at ht
  refine Zd ?_
  rw [V3 es k (Zbd es[k] m q) (by unfold Zbd;rw [if_neg (by omega),hR2];rfl)]
  rfl
theorem p14 (n:Int) (es:List Ep) (hf:Few es) (hw:Wd es) (o v:Int):∃ (n':Int) (es':List Ep) (t c:Int) (w:LL) (s r:Int),g14 n (es.map ec) o v=Xa (n',es'.map ec,t,c,w,s,r)∧g29 n (es.map ec) o v=Xa (n',es'.map ec,t,c,w,s,r)∧Zc1 es'∧WOk w:=by
 rcases ZaJ n es hf with h | ⟨hA,hB⟩
 ·have hlen:=h.len
  rcases hit es o with ⟨k,hk,rfl⟩ | hno
  ·have hok:=h.ok _ (Xy hk)
   have pre:∀ (P:Int×LL×Int×Int×LL×Int×Int→Prop),es[k].v≠v∨es[k].q = []→(es[k].v≠v→P (0,E0,0,0,E0,0,8))→(es[k].v=v→es[k].q = []→P (0,E0,0,0,E0,0,2))→Ret P (g29 n (es.map ec) es[k].o v):=fun P ho h1 h2=>by
    rw [ZiJ]
    refine Za (s23 n es h) (Zb (fun h=>by cases h) fun _=>Za (ZnQ n es h k hk) (Zb (fun hh=>?_) fun _=>Ze (ZX hk _) (Zb (fun h8=>Zd (h1 ?_)) fun h8=>Ze (ZX hk _) (Zb (fun h9=>Zd (h2 ?_ ?_)) fun h9=>?_))))
    ·simp only [CQ] at hh;omega
    ·simp only [CQ,ev] at h8;exact h8
    ·simp only [CQ,ev] at h8;exact Decidable.not_not.1 h8
    ·simp only [CQ,ev,Xi] at h9;exact List.length_eq_zero_iff.1 (by omega)
    ·simp only [CQ,ev,Xi] at h8 h9
     rcases ho with ho | ho
     ·exact (h8 ho).elim
     ·rw [ho] at h9;exact (h9 rfl).elim
   by_cases hv:es[k].v=v
   ·subst hv
    cases hq:es[k].q with
    | nil => exact ⟨0, [], 0, 0, [], 0, 2, Zvo n es h k hk hq, ZA (pre _ (.inr hq) (fun h => (h rfl).elim) fun _ _ => rfl), ZS, KR⟩
    | cons m q =>
     have hfe:=hf.e _ (Xy hk)
     have hwk:=hw _ (Xy hk)
     have hwm:WOk m.w:=hwk m (by rw [hq];simp)
     refine ⟨n,_,m.t,m.c,m.w,m.s,0,s14 n es h k hk m q hq,Zup n es h hf k hk m q hq,Vr (ZoH h hk hq (by have:=hfe.2.1;omega)) (Zlb hw fun x hx=>hwk x ?_),hwm⟩
     unfold Zbd at hx
     rw [hq]
     split at hx
     ·rcases Xs.1 hx with hx | hx
      ·have:x∈q:=hx
       simp [this]
      ·rcases Xs.1 (show x∈es[k].s++[m] from hx) with hx | hx
       ·simp [hx]
       ·rw [XH] at hx;simp [hx]
     ·rcases Xs.1 hx with hx | hx
      ·have:x∈q:=hx
       simp [this]
      ·have:x∈es[k].s:=hx
       simp [this]
   ·exact ⟨0,[],0,0,[],0,8,ZuP n es h k hk v hv,ZA (pre _ (.inl hv) (fun _=>rfl) fun h=>(hv h).elim),ZS,KR⟩
  ·refine ⟨0,[],0,0,[],0,17,ZuZ n es h o v hno,ZA ?_,ZS,KR⟩
   rw [ZiJ]
   exact Za (s23 n es h) (Zb (fun h=>by cases h) fun _=>Za (ZrX n es (by omega) o hno) (Zb (fun _=>Zd rfl) fun h=>(h rfl).elim))
 ·refine ⟨0,[],0,0,[],0,74,?_,?_,ZS,KR⟩
  ·rw [Zhf,hA];rfl
  ·rw [ZiJ,hB];rfl
theorem first {α:Type} (p:α→Bool):∀ (l:List α),(∀ x∈l,p x=Xc)∨∃ k,∃ hk:k < l.length,p l[k]=Xb∧∀ (i:Nat) (hi:i < k),p l[i]=Xc
 | [] => .inl fun x hx => by cases hx
 | a :: l => by
  cases ha:p a with
  | true => exact .inr ⟨0, by simp, ha, fun i hi => by omega⟩
  | false =>
   rcases first p l with h | ⟨k,hk,h1,h2⟩
   ·refine .inl fun x hx=>?_
    rcases Xu.1 hx with rfl | hx
    ·exact ha
    ·exact h x hx
   ·refine .inr ⟨k+1,by simp;omega,h1,fun i hi=>?_⟩
    cases i with
    | zero => exact ha
    | succ i => exact h2 i (by omega)
theorem ZuI (n:Int) (es:List Ep) (h:Vld n es) (t v:Int) (w:LL) (hw:¬ w.length≤8):g17 n (es.map ec) t v w=Xa (0,E0,0,0,0,E0,1):=by
 refine ZA ?_
 rw [ZiW]
 refine Za (s22 n es h) (Zb (fun h=>by cases h) fun _=>Zb (fun h8=>Zd rfl) fun h8=>?_)
 simp only [CQ] at h8;omega
theorem Zuv (n:Int) (es:List Ep) (h:Vld n es) (t v:Int) (w:LL) (hw:¬ w.length≤8):g31 n (es.map ec) t v w=Xa (0,E0,0,0,0,E0,1):=by
 refine ZA ?_
 rw [ZiK]
 refine Za (s23 n es h) (Zb (fun h=>by cases h) fun _=>Zb (fun h8=>Zd rfl) fun h8=>?_)
 simp only [CQ] at h8;omega
theorem dg3 {es:List Ep} {i:Nat} (hi:i < es.length):Yi (es.map en) i 3=es[i].s.map mc:=by
 unfold Yi
 rw [ZhD hi]
 rfl
theorem Ztw {P:Int×LL×Int×Int×Int×LL×Int→Prop} (n:Int) (es:List Ep) (h:Vld n es) (hf:Few es) (t v:Int) (w:LL) (i:Nat) (hi:i < es.length) (j:Nat) (hj:j≤es[i].s.length) (hb:∀ (a:Nat) (ha:a < j),es[i].s[a].t≠t)
  (rec0:List V→Option (Int×LL×Int×Int×Int×LL×Int))
  (hit:(hj':j < es[i].s.length)→es[i].s[j].t=t∧Ret P (if (cop .neq es[i].v v)=Xb then Xa (0,E0,0,0,0,E0,8) else Zm (ZV E0 w 8)<|some (n,(es.set i { es[i] with s:=es[i].s.take j++es[i].s.drop (j+1) }).map ec,t,es[i].s[j].c,0,w,0)))
  (out:j=es[i].s.length→Ret P (rec0 [.i t,.i v,.l w,.i 0,.l [],.i 0,.i 0,.i 0,.l [],.i n,.l (es.map en),.i (iop .add .i64 (i:Int) 1)])) :
  Ret P (ZlP rec0 J6 t v w 0 E0 0 0 0 E0 n (es.map en) (i:Int) (i:Int) 0):=by
 have hok:=h.ok _ (Xy hi)
 have hsl:=hok.sl
 have hat:=ZhD hi
 have r1:(0:Int)≤(i:Int):=by omega
 refine Zu (F:=fun k (_:Unit) a=>ZlP rec0 k t v w 0 E0 0 0 0 E0 n (es.map en) (i:Int) (i:Int) a) j (fun _ _=>True) (by omega) (fun k a _ ha _ next=>?_) () trivial
 refine Ze (Zpc ..) (Zc r1 (Zc (KP hat rfl) ?_))
 rw [XQ,dg3 hi,Xi]
 refine Zb (fun hh=>?_) fun hh=>?_
 ·simp only [CQ] at hh
  have ha':a < es[i].s.length:=by omega
  refine Zc r1 (Zc (KP hat rfl) (Ze (Jo ha' _) (Zb (fun hne=>?_) fun he=>?_)))
  ·simp only [CQ,mv] at hne
   by_cases haj:a < j
   ·rw [Ji (n:=a) (XA _) (by omega)]
    exact next haj () trivial
   ·have:a=j:=by omega
    subst this
    exact (hne (hit ha').1).elim
  ·simp only [CQ,mv] at he
   have haj:a=j:=by
    by_cases haj:a < j
    ·exact (hb a haj (Decidable.not_not.1 he)).elim
    ·omega
   subst haj
   obtain ⟨ht,hh2⟩:=hit ha'
   have hz:JZ (es.map en) i 1 1=es.map en:=ZbL hat rfl
   have hel:∀ (k:Int→Option (Int×LL×Int×Int×Int×LL×Int)),ZB (Zdx (es.map en) 1 1) (i:Int) [.int .i64] k=k es[i].v:=fun k=>JS (sh:=[.int .i64]) k r1 (cs:=[I es[i].v]) (by
    rw [XQ]
    unfold Zdx
    rw [Xl,hat]
    rfl) rfl
   rw [hz]
   refine Ze (hel _) ?_
   have hp:Jj (es.map en) i 3 (AV.nest 4 Xb 41 ((es[i].s.take a++es[i].s.drop (a+1)).map mc))=(es.map en).set i (en { es[i] with s:=es[i].s.take a++es[i].s.drop (a+1) }):=Jt hat
   obtain ⟨r,e,hr⟩:=hh2
   by_cases hv:(cop .neq es[i].v v)=Xb
   ·rw [if_pos hv] at e ⊢
    cases e
    exact Zd hr
   ·rw [if_neg hv] at e ⊢
    refine Zc r1 (Zc (KP hat rfl) (Zc (by omega) ?_))
    rw [dg3 hi]
    refine Zc (by rw [Xi];omega) ?_
    rw [Ji (n:=a) (XA _) (by omega),XQ,XQ,← Ui,← Ut,← XJ,hp,V3 es i { es[i] with s:=es[i].s.take a++es[i].s.drop (a+1) } rfl]
    exact ⟨r,e,hr⟩
 ·simp only [CQ] at hh
  have haj:a=es[i].s.length:=by omega
  have:j=a:=by omega
  subst this
  exact out haj
theorem Zvm (n:Int) (es:List Ep) (h:Vld n es) (hf:Few es) (t v:Int) (w:LL) (hw:w.length≤8) (hno:∀ e∈es,∀ m∈e.s,m.t≠t):g31 n (es.map ec) t v w=Xa (0,E0,0,0,0,E0,17):=by
 refine ZA ?_
 have hlen:=h.len
 rw [ZiK]
 refine Za (s23 n es h) (Zb (fun h=>by cases h) fun _=>Zb (fun h8=>?_) fun _=>Za (s19 n es (by omega) hf.copy) ?_)
 ·simp only [CQ] at h8;omega
 refine Zu (F:=fun k (_:Unit) i=>Zpm k t v w 0 E0 0 0 0 E0 n (es.map en) i) es.length (fun _ _=>True) (by omega) (fun k i _ hi _ next=>?_) () trivial
 refine Ze (Zjz ..) (Zb (fun hh=>Zb (fun _=>?_) fun _=>Zd rfl) fun _=>Zd rfl)
 rw [Xi] at hh
 simp only [CQ] at hh
 have hi':i < es.length:=by omega
 refine Zc (by omega) (Zc (by rw [Xi];omega) (Ztw n es h hf t v w i hi' es[i].s.length (XA _) (fun a ha=>hno _ (Xy hi') _ (Xy ha)) _ (fun hj=>by omega) fun _=>?_))
 rw [Ji hi (by omega)]
 exact next hi' () trivial
theorem Zuu (n:Int) (es:List Ep) (h:Vld n es) (hf:Few es) (t v:Int) (w:LL) (hw:w.length≤8) (k j:Nat) (hk:k < es.length) (hj:j < es[k].s.length) (ht:es[k].s[j].t=t) (hb:∀ (i:Nat) (hi:i < j),es[k].s[i].t≠t)
  (hno:∀ (i:Nat) (hi:i < k),∀ m∈es[i].s,m.t≠t) :
  Ret (fun r=>(es[k].v≠v→r=(0,E0,0,0,0,E0,8))∧(es[k].v=v→r=(n,(es.set k { es[k] with s:=es[k].s.take j++es[k].s.drop (j+1) }).map ec,t,es[k].s[j].c,0,w,0))) (g31 n (es.map ec) t v w):=by
 have hlen:=h.len
 have ht0:0 < t:=by
  obtain ⟨h1,h2⟩:=(h.ok _ (Xy hk)).sm _ (Xy hj)
  have:=h1.1
  omega
 rw [ZiK]
 refine Za (s23 n es h) (Zb (fun h=>by cases h) fun _=>Zb (fun h8=>?_) fun _=>Za (s19 n es (by omega) hf.copy) ?_)
 ·simp only [CQ] at h8;omega
 refine Zu (F:=fun f (_:Unit) i=>Zpm f t v w 0 E0 0 0 0 E0 n (es.map en) i) es.length (fun i _=>i≤k) (by omega) (fun f i _ hi hik next=>?_) () (XZ _)
 refine Ze (Zjz ..) (Zb (fun hh=>Zb (fun _=>?_) fun h0=>?_) fun hh=>?_)
 ·have hi':i < es.length:=by omega
  by_cases hlt:i < k
  ·refine Zc (by omega) (Zc (by rw [Xi];omega) (Ztw n es h hf t v w i hi' es[i].s.length (XA _) (fun a ha=>hno i hlt _ (Xy ha)) _ (fun hj=>by omega) fun _=>?_))
   rw [Ji hi (by omega)]
   exact next hi' () (by omega)
  ·have hie:i=k:=by omega
   subst hie
   refine Zc (by omega) (Zc (by rw [Xi];omega) (Ztw n es h hf t v w i hi' j (by omega) hb _ (fun hj'=>⟨ht,Zb (fun h1=>?_) fun h1=>Zc (ZD (by simp;omega) (by decide)) ?_⟩) fun hj'=>by omega))
   ·simp only [CQ] at h1
    exact Zd ⟨fun _=>rfl,fun h=>(h1 h).elim⟩
   ·simp only [CQ] at h1
    exact Zd ⟨fun h=>(h1 h).elim,fun _=>rfl⟩
 ·simp only [CQ] at h0;omega
 ·rw [Xi] at hh
  simp only [CQ] at hh;omega
theorem p17 (n:Int) (es:List Ep) (hf:Few es) (hw:Wd es) (t v:Int) (w:LL) (hwd:WOk w):∃ (n':Int) (es':List Ep) (t' c e:Int) (w':LL) (r:Int),g17 n (es.map ec) t v w=Xa (n',es'.map ec,t',c,e,w',r)∧g31 n (es.map ec) t v w=Xa (n',es'.map ec,t',c,e,w',r)∧Zc1 es'∧WOk w':=by
 rcases ZaJ n es hf with h | ⟨hA,hB⟩
 ·by_cases hw8:w.length≤8
  ·rcases first (fun e:Ep=>e.s.any fun m=>decide (m.t=t)) es with hno | ⟨k,hk,h1,h2⟩
   ·have hno':∀ e∈es,∀ m∈e.s,m.t≠t:=fun e he m hm ht=>by
     have:=hno e he
     rw [List.any_eq_false] at this
     exact this m hm (by simp [ht])
    exact ⟨0,[],0,0,0,[],17,ZuM n es h t v w hw8 hno',Zvm n es h hf t v w hw8 hno',ZS,KR⟩
   ·have hno':∀ (i:Nat) (hi:i < k),∀ m∈es[i].s,m.t≠t:=fun i hi m hm ht=>by
     have:=h2 i hi
     rw [List.any_eq_false] at this
     exact this m hm (by simp [ht])
    rcases first (fun m:Ms=>decide (m.t=t)) es[k].s with hn2 | ⟨j,hj,h3,h4⟩
    ·rw [List.any_eq_true] at h1
     obtain ⟨m,hm,hmt⟩:=h1
     have:=hn2 m hm
     rw [this] at hmt
     cases hmt
    ·have ht:es[k].s[j].t=t:=by simpa using h3
     have hb:∀ (i:Nat) (hi:i < j),es[k].s[i].t≠t:=fun i hi=>by simpa using h4 i hi
     obtain ⟨r,e,r1,r2⟩:=Zuu n es h hf t v w hw8 k j hk hj ht hb hno'
     by_cases hv:es[k].v=v
     ·rw [r2 hv] at e
      refine ⟨n,_,t,es[k].s[j].c,0,w,0,Zvg n es h t v w hw8 k j hk hj ht hb hno' hv,e,Vr (ZmM h hk hj) (Zlb hw fun x hx=>hw _ (Xy hk) x ?_),hwd⟩
      rcases Xs.1 hx with hx | hx
      ·have:x∈es[k].q:=hx
       simp [this]
      ·rcases Xs.1 (show x∈es[k].s.take j++es[k].s.drop (j+1) from hx) with hx | hx
       ·have:=XP hx
        simp [this]
       ·have:=XS hx
        simp [this]
     ·rw [r1 hv] at e
      exact ⟨0,[],0,0,0,[],8,ZuA n es h t v w hw8 k j hk hj ht hb hno' hv,e,ZS,KR⟩
  ·exact ⟨0,[],0,0,0,[],1,ZuI n es h t v w hw8,Zuv n es h t v w hw8,ZS,KR⟩
 ·refine ⟨0,[],0,0,0,[],74,?_,?_,ZS,KR⟩
  ·rw [ZiW,hA];rfl
  ·rw [ZiK,hB];rfl
theorem s60 (ms:List Ms) (hl:ms.length < 900) (d:Int):g60 (ms.map mc) d=Xa ((keep d ms).map mc):=by
 refine ZA ?_
 rw [Zsj]
 refine Zu (F:=fun k (s:LL) i=>ZlV k (ms.map mc) d s i) ms.length (fun i s=>s=(keep d (ms.take i)).map mc) (by omega) (fun k i s hi hs next=>?_) E0 (by simp [keep])
 subst hs
 refine Ze (ZnK ..) (Zb (fun hh=>?_) fun hh=>?_)
 ·rw [Xi] at hh
  simp only [CQ] at hh
  have hi':i < ms.length:=by omega
  have hkl:=J7 d (ms.take i)
  rw [Xt] at hkl
  refine Ze (Jo hi' _) (Zb (fun h1=>Ze (Jo hi' _) (Zc (ZD (by simp;omega) (by decide)) ?_)) fun h1=>?_)
  ·simp only [CQ,mv] at h1
   rw [Ji hi (by omega)]
   refine next hi' _ ?_
   rw [Y8 hi',if_neg h1,XJ]
   rfl
  ·simp only [CQ,mv] at h1
   rw [Ji hi (by omega)]
   exact next hi' _ (by rw [Y8 hi',if_pos (Decidable.not_not.1 h1)])
 ·rw [Xi] at hh
  simp only [CQ] at hh
  have:i=ms.length:=by omega
  subst this
  rw [XW]
  exact Zd rfl
def fro (es:List Ep) (i:Nat):LL:=(es.take i).map ec++(es.drop i).map en
theorem Zp0 {es:List Ep} {i:Nat} (h:i < es.length):(fro es i)[i]? = Xa (en es[i]):=by
 unfold fro
 rw [XB (by simp;omega)]
 have:i-((es.take i).map ec).length=0:=by simp;omega
 rw [this,Xl,XI,Ug,Xq h]
 rfl
theorem Zqz (es:List Ep) (i:Nat):(fro es i).length=es.length:=by
 simp only [fro,Xr,Xi,Xt,XV];omega
theorem Zjc {es:List Ep} {i:Nat} (h:i < es.length):JZ (fro es i) i 0 4=fro es (i+1):=by
 have h1:((es.take i).map ec).length=i:=by simp;omega
 have:JZ (fro es i) i 0 4=(fro es i).set i (ec es[i]):=Jt (Zp0 h)
 rw [this]
 unfold fro
 rw [TE _ _ (by omega),h1,U3,TF h,Xk,List.set_cons_zero,Um h,XJ,Xw]
 rfl
theorem Zi1 {n:Int} {es:List Ep} (h:Vld n es) (d:Int):∀ i,i≤es.length→(Zho d (es.take i)).length≤i*808:=fun i=>by
 induction i with
 | zero => intro _; simp [Zho]
 | succ i ih =>
  intro hi
  have hok:=h.ok _ (Xy (show i < es.length by omega))
  have:=ih (by omega)
  rw [Vc (show i < es.length by omega)]
  split
  ·have h1:=Ve (keep d es[i].s++keep d es[i].q)
   have h2:=J7 d es[i].s
   have h3:=J7 d es[i].q
   have h4:=hok.ql
   have h5:=hok.sl
   rw [Xr] at h1
   rw [Xr]
   omega
  ·omega
theorem r33 (n:Int) (es:List Ep) (h:Vld n es) (hf:Few es) (d:Int) (hd0:0≤d) (hd1:d < 32):g33 n (es.map ec) d=Xa (n,(left d es).map ec,(Zho d es).map oc,0):=by
 refine ZA ?_
 have hlen:=h.len
 rw [ZmA]
 refine Za (s23 n es h) (Zb (fun h=>by cases h) fun _=>Za (s50 d hd0 hd1) (Zb (fun h=>by cases h) fun _=>Za (s19 n es (by omega) hf.copy) ?_))
 have h0:es.map en=fro es 0:=by simp [fro]
 rw [h0]
 refine Zu (F:=fun k (s:LL×LL×LL) i=>Zmv k d 0 E0 n s.1 s.2.1 s.2.2 i) es.length (fun i s=>s=(fro es i,(left d (es.take i)).map ec,(Zho d (es.take i)).map oc)) (by omega) (fun k i s hi hs next=>?_) (fro es 0,E0,E0) (by simp [left,Zho])
 subst hs
 have hfl:=Zqz es i
 refine Ze (ZoO ..) (Zb (fun hh=>?_) fun hh=>?_)
 ·rw [show (Xh (fro es i,(left d (es.take i)).map ec,(Zho d (es.take i)).map oc).1:Int)=(es.length:Int) from congrArg Int.ofNat hfl] at hh
  simp only [CQ] at hh
  have hi':i < es.length:=by omega
  have hok:=h.ok _ (Xy hi')
  have h4:=hok.ql
  have h5:=hok.sl
  have r1:(0:Int)≤(i:Int):=UL i
  have hat:(fro es (i+1))[i]? = Xa (ec es[i]):=by
   rw [← Zjc hi',show JZ (fro es i) i 0 4=(fro es i).set i (ec es[i]) from Jt (Zp0 hi')]
   exact YO (by omega)
  have hel:∀ (k:Int×Int×LL×LL→Option (Int×LL×LL×Int)),ZB (Zdx (fro es (i+1)) 0 4) (i:Int) [.int .i64,.int .i64,.slice 4,.slice 4] k=k (ev es[i]):=fun k=>JS (sh:=[.int .i64,.int .i64,.slice 4,.slice 4]) k r1 (cs:=ec es[i]) (by
   rw [XQ]
   unfold Zdx
   rw [Xl,hat]
   rfl) rfl
  have hll:=ZeP d (es.take i)
  rw [Xt] at hll
  have hdi:=Zi1 h d i hi
  rw [XQ,Zjc hi']
  refine Zc r1 (Zc (by rw [hfl];omega) (Ze (hel _) (Za (s60 es[i].q (by omega) d) (Za (s60 es[i].s (by omega) d) (Zb (fun hv=>?_) fun hv=>?_)))))
  ·simp only [CQ,ev] at hv
   have h2:=J7 d es[i].s
   have h3:=J7 d es[i].q
   have h6:=Ve (keep d es[i].s++keep d es[i].q)
   rw [Xr] at h6
   refine Za (s56 _ _ (keep d es[i].q) (keep d es[i].s) (by omega) (by omega)) (Zc (Wi (by rw [Xi,Xi];omega) (by decide)) ?_)
   rw [Ji hi (by omega)]
   exact next hi' _ (by rw [ZaD hi',if_pos hv,Vc hi',if_pos hv,XJ])
  ·simp only [CQ,ev] at hv
   refine Zc (ZD (by simp;omega) (by decide)) ?_
   rw [Ji hi (by omega)]
   exact next hi' _ (by rw [ZaD hi',if_neg hv,Vc hi',if_neg hv,XJ])
 ·rw [show (Xh (fro es i,(left d (es.take i)).map ec,(Zho d (es.take i)).map oc).1:Int)=(es.length:Int) from congrArg Int.ofNat hfl] at hh
  simp only [CQ] at hh
  have:i=es.length:=by omega
  subst this
  rw [XW]
  exact Zd rfl
theorem p32 (n:Int) (es:List Ep) (hf:Few es) (hw:Wd es) (d:Int):∃ (n':Int) (es':List Ep) (l:List (Int×Int×Int×LL)) (c:Int),g32 n (es.map ec) d=Xa (n',es'.map ec,l.map os,c)∧g33 n (es.map ec) d=Xa (n',es'.map ec,l.map os,c)∧Zc1 es'∧l.length≤100000∧∀ p∈l,WOk p.2.2.2:=by
 rcases ZaJ n es hf with h | ⟨hA,hB⟩
 ·have hlen:=h.len
  by_cases hd:0≤d∧d < 32
  ·have hdl:=Zi1 h d es.length (XA _)
   rw [XW] at hdl
   refine ⟨n,left d es,_,0,ZoG _ ▸ s32 n es h d hd.1 hd.2,ZoG _ ▸ r33 n es h hf d hd.1 hd.2,Vr (ZoJ h d) (ZpM hw fun e he=>?_),by rw [Xi];omega,fun p hp=>?_⟩
   ·obtain ⟨e0,he0,rfl⟩:=Xm.1 he
    refine ⟨e0,(U4.1 he0).1,fun m hm=>?_⟩
    rcases Xs.1 hm with hm | hm
    ·have:=(Wg d e0.q).subset hm
     simp [this]
    ·have:=(Wg d e0.s).subset hm
     simp [this]
   ·obtain ⟨p0,_,rfl⟩:=Xm.1 hp
    exact KR
  ·refine ⟨0,[],[],1,ZA ?_,ZA ?_,ZS,by decide,fun p hp=>by cases hp⟩
   ·rw [Zle]
    exact Za (s22 n es h) (Zb (fun h=>by cases h) fun _=>Za (Ztj d hd) (Zb (fun _=>Zd rfl) fun h=>(h rfl).elim))
   ·rw [ZmA]
    exact Za (s23 n es h) (Zb (fun h=>by cases h) fun _=>Za (Zs7 d hd) (Zb (fun _=>Zd rfl) fun h=>(h rfl).elim))
 ·refine ⟨0,[],[],74,?_,?_,ZS,by decide,fun p hp=>by cases hp⟩
  ·rw [Zle,hA];rfl
  ·rw [ZmA,hB];rfl
theorem Za0:∀ (a b:List Int),a.Pairwise (fun x y=>x≤y)→b.Pairwise (fun x y=>x≤y)→a.Perm b→a=b
 | [], b, _, _, h => (List.nil_perm.1 h).symm
 | x :: a, b, ha, hb, h => by
  cases b with
  | nil => exact (List.perm_nil.1 h)
  | cons y b =>
   have ha':=TL.1 ha
   have hb':=TL.1 hb
   have h1:x∈y::b:=h.mem_iff.1 (by simp)
   have h2:y∈x::a:=h.mem_iff.2 (by simp)
   have h3:y≤x:=by
    rcases Xu.1 h1 with rfl | h1
    ·omega
    ·exact hb'.1 _ h1
   have h4:x≤y:=by
    rcases Xu.1 h2 with rfl | h2
    ·omega
    ·exact ha'.1 _ h2
   have:x=y:=by omega
   subst this
   rw [Za0 a b ha'.2 hb'.2 (List.perm_cons x |>.1 h)]
theorem Zao (l:List Int):(ZnD l).Perm l:=List.mergeSort_perm l _
theorem WF (l:List Int):(ZnD l).Pairwise (fun x y=>x≤y):=by
 have:=List.pairwise_mergeSort (le:=fun a b:Int=>decide (a≤b)) (fun a b c h1 h2=>by simp at *; omega) (fun a b=>by simp;omega) l
 exact this.imp fun h=>by simpa using h
theorem elem_i? {γ:Type} {l:List Int} {i:Nat} {z:Int} (h:l[i]? = Xa z) (k:Int→Option γ):ZB (Zn l) (i:Int) [.int .i64] k=k z:=by
 obtain ⟨hi,rfl⟩:=Xn.1 h
 exact Kw hi k
theorem ZpP (l:List Int) (w:Nat) (hw:w < l.length) (z:Int):Zq (Zn l) w 0 [AV.val (.int .i64 z)]=Zn (l.set w z):=by
 have:(Zn l)[w]? = Xa (ZrQ l[w]):=by unfold Zn;rw [Xl,Xq hw];rfl
 rw [show Zq (Zn l) w 0 [AV.val (.int .i64 z)]=(Zn l).modify w (fun x=>setCells x 0 [AV.val (.int .i64 z)]) from rfl,Jt this]
 unfold Zn
 rw [Uv]
 rfl
theorem Zcq (l:List Int):(Zn l).length=l.length:=by simp [Zn]
theorem ZuQ {P:LL→Prop} (rec0:List V→Option LL) (i:Nat) (hi:i < 50000):∀ (j fuel:Nat) (A:List Int) (x:Int) (B D:List Int),j < fuel→A.length=j→(A++B).Pairwise (fun x y=>x≤y)→(∀ b∈B,x≤b)→A.length+B.length=i→
  (∀ X:List Int,X.Perm (A++x::(B++D))→(X.take (i+1)).Pairwise (fun x y=>x≤y)→Ret P (rec0 [.l (Zn X),.i (iop .add .i64 (i:Int) 1)]))→Ret P (Zo5 rec0 fuel (Zn (A++x::(B++D))) (i:Int) (j:Int)):=by
 intro j
 induction j with
 | zero =>
  intro fuel A x B D hf hA hs hx hl hr
  obtain ⟨f,rfl⟩:∃ f,fuel=f+1:=⟨fuel-1,by omega⟩
  obtain rfl:=List.length_eq_zero_iff.1 hA
  refine Ze (ZiA ..) (Zb (fun hh=>?_) fun _=>hr _ (List.Perm.refl _) ?_)
  ·simp only [CQ] at hh;omega
  ·have hBi:B.length=i:=by simpa using hl
   have:UR (i+1) ([]++x::(B++D))=x::B:=by
    rw [X4,Tg,UY (by omega),← hBi,XW]
   rw [this]
   exact TL.2 ⟨hx,hs⟩
 | succ j ih =>
  intro fuel A x B D hf hA hs hx hl hr
  obtain ⟨f,rfl⟩:∃ f,fuel=f+1:=⟨fuel-1,by omega⟩
  obtain ⟨A',a,rfl⟩:∃ A' a,A=A'++[a]:=⟨A.dropLast,A.getLast (fun h=>by rw [h] at hA;simp at hA),(List.dropLast_concat_getLast _).symm⟩
  have hA':A'.length=j:=by simpa using hA
  have hform:(A'++[a])++x::(B++D)=A'++a::x::(B++D):=by simp
  rw [hform] at hr ⊢
  have hsub:iop .sub .i64 ((j+1:Nat):Int) 1=(j:Int):=by
   have:A'.length+1+B.length=i:=by simpa using hl
   rw [ZhN (by omega) (by omega)];omega
  have e1:(A'++a::x::(B++D))[j+1]? = Xa x:=ZmJ hA'
  have e0:(A'++a::x::(B++D))[j]? = Xa a:=ZpQ hA'
  have hXl:(A'++a::x::(B++D)).length=j+2+B.length+D.length:=by simp;omega
  have q1:(0:Int)≤((j+1:Nat):Int):=by omega
  have q2:((j+1:Nat):Int) < (Xh (Zn (A'++a::x::(B++D))):Int):=by rw [Zcq,hXl];omega
  have q3:(0:Int)≤(j:Int):=by omega
  have q4:(j:Int) < (Xh (Zn (A'++a::x::(B++D))):Int):=by rw [Zcq,hXl];omega
  refine Ze (ZiA ..) (Zb (fun _=>?_) fun hh=>?_)
  ·rw [hsub]
   refine Zc q1 (Zc q2 (Ze (elem_i? e1 _) (Zc q3 (Zc q4 (Ze (elem_i? e0 _) (Zb (fun hlt=>?_) fun hge=>?_))))))
   ·simp only [CQ] at hlt
    refine Zc q1 (Zc q2 (Ze (elem_i? e1 _) (Zc q3 (Zc q4 (Ze (elem_i? e0 _) ?_)))))
    rw [XQ,XQ,ZpP _ _ (by omega)]
    have q5:(j:Int) < (Xh (Zn ((A'++a::x::(B++D)).set (j+1) a)):Int):=by rw [Zcq,Ud,hXl];omega
    refine Zc q1 (Zc q2 (Zc q1 (Zc q2 (Zc q3 (Zc q5 (Zc q3 (Zc q5 ?_)))))))
    rw [ZpP _ _ (by rw [Ud];omega),ZiU hA']
    have hsw:A'++x::a::(B++D)=A'++x::((a::B)++D):=rfl
    rw [hsw]
    refine ih f A' x (a::B) D (by omega) hA' ?_ ?_ ?_ fun X hX=>hr X (hX.trans ?_)
    ·have:A'++a::B=(A'++[a])++B:=by simp
     rw [this];exact hs
    ·intro b hb
     rcases Xu.1 hb with rfl | hb
     ·omega
     ·exact hx b hb
    ·have:A'.length+1+B.length=i:=by simpa using hl
     rw [XN];omega
    ·exact List.Perm.append_left _ (List.Perm.swap a x (B++D))
   ·simp only [CQ] at hge
    refine hr _ (List.Perm.refl _) ?_
    have hli:A'.length+1+B.length=i:=by simpa using hl
    have:UR (i+1) (A'++a::x::(B++D))=(A'++[a])++x::B:=by
     have h2:A'++a::x::(B++D)=((A'++[a])++x::B)++D:=by simp
     have h3:((A'++[a])++x::B).length=i+1:=by simp;omega
     rw [h2,UY (by omega),← h3,XW]
    rw [this]
    obtain ⟨h1,h2,h3⟩:=TK.1 hs
    obtain ⟨h4,_,h5⟩:=TK.1 h1
    refine TK.2 ⟨h1,TL.2 ⟨hx,h2⟩,fun y hy b hb=>?_⟩
    have hya:y≤a:=by
     rcases Xs.1 hy with hy | hy
     ·exact h5 y hy a (by simp)
     ·rw [XH] at hy;omega
    rcases Xu.1 hb with rfl | hb
    ·omega
    ·have:=hx b hb;omega
  ·simp only [CQ] at hh;omega
theorem ZtG (X0:List Int) (hl:X0.length < 50000):Zn6 J6 (Zn X0) 1=Xa (Zn (ZnD X0)):=by
 refine ZA ?_
 obtain ⟨N,hN⟩:∃ N,N=X0.length:=⟨_,rfl⟩
 have fin:∀ X:List Int,X.Perm X0→(X.take N).Pairwise (fun x y=>x≤y)→Zn X=Zn (ZnD X0):=fun X hX hs=>by
  have:X.length=N:=by rw [hX.length_eq,hN]
  rw [← this,XW] at hs
  rw [Za0 X (ZnD X0) hs (WF X0) (hX.trans (Zao X0).symm)]
 refine KM (F:=fun k (s:LL) i=>Zn6 k s (i+1)) (n:=N-1) (fun i s=>∃ X:List Int,s=Zn X∧X.Perm X0∧(X.take (i+1)).Pairwise (fun x y=>x≤y)) (by omega) (fun k i s hi hs next=>?_) (fun k s hs=>?_) (Zn X0) ⟨X0,rfl,List.Perm.refl _,?_⟩
 ·obtain ⟨X,rfl,hX,hsX⟩:=hs
  have hXl:X.length=N:=by rw [hX.length_eq,hN]
  have hc:((i:Int)+1)=((i+1:Nat):Int):=by omega
  rw [hc]
  refine Ze (Ziz ..) (Zb (fun _=>?_) fun hh=>?_)
  ·have hi1:i+1 < X.length:=by omega
   have hform:X=X.take (i+1)++X[i+1]::([]++X.drop (i+2)):=Wb hi1
   have key:=ZuQ (P:=fun r=>r=Zn (ZnD X0)) (F34.lp [0,1,0,1,0] 0 r0 k) (i+1) (by omega) (i+1) J6 (X.take (i+1)) X[i+1] [] (X.drop (i+2)) (by have:=ZiL (n:=i+1) (by omega);omega) (by rw [Xt];omega) (by rw [Us];exact hsX) (fun b hb=>by cases hb) (by rw [Xt];simp;omega)
    (fun Y hY hsY=>by
     rw [Zaf (by omega)]
     have:=next (Zn Y) ⟨Y,rfl,(hY.trans (by rw [← hform])).trans hX,hsY⟩
     have hc2:(((i+1:Nat):Int)+1)=((i+1+1:Nat):Int):=by omega
     rw [hc2] at this
     exact this)
   rw [← hform] at key
   exact key
  ·rw [Zcq] at hh
   simp only [CQ] at hh;omega
 ·obtain ⟨X,rfl,hX,hsX⟩:=hs
  have hXl:X.length=N:=by rw [hX.length_eq,hN]
  refine Ze (Ziz ..) (Zb (fun hh=>?_) fun _=>Zd (fin X hX ?_))
  ·rw [Zcq] at hh
   simp only [CQ] at hh;omega
  ·refine hsX.sublist ?_
   have:N≤N-1+1:=by omega
   exact (List.take_sublist_take_left this)
 ·cases X0 with
  | nil => exact List.Pairwise.nil
  | cons x X => rw [Tg, List.take_zero]; exact List.pairwise_singleton _ _
def wtF (c:Int) (es:List Ep):List Int:=es.flatMap fun e=>wt c (e.s++e.q)
theorem Zp5 (c:Int) (a b:List Ms):wt c (a++b)=wt c a++wt c b:=by
 unfold wt;rw [U0,XJ]
theorem ZiX (c:Int):∀ es:List Ep,(wtF c es).Perm (wtE c es)
 | [] => List.Perm.refl _
 | e :: es => by
  unfold wtF wtE
  rw [Tf,Tf,Zp5,Zp5]
  exact (TH).append (ZiX c es)
theorem Zjn {c:Int} {es:List Ep} {j:Nat} (h:j < es.length):wtF c (es.take (j+1))=wtF c (es.take j)++wt c (es[j].s++es[j].q):=by
 unfold wtF
 rw [Um h,U8]
 simp
theorem Zh9 {es:List Ep} (h:Few es) (c:Int):∀ i,i≤es.length→(wtF c (es.take i)).length≤i*60
 | 0, _ => by simp [wtF]
 | i + 1, hi => by
  have:=Zh9 h c i (by omega)
  obtain ⟨h1,h2,_⟩:=h.e _ (Xy (show i < es.length by omega))
  rw [Zjn (show i < es.length by omega),Xr]
  have h3:=ZiP c (es[i].s++es[i].q)
  rw [Xr] at h3
  omega
theorem r34 (n:Int) (es:List Ep) (h:Vld n es) (hf:Few es) (c:Int):g34 n (es.map ec) c=Xa (Zn (ZnD (wtE c es))):=by
 refine ZA ?_
 have hlen:=h.len
 rw [Zqe]
 refine Za (s23 n es h) (Zb (fun h=>by cases h) fun _=>?_)
 refine Zu (F:=fun k (s:LL) i=>Zrv k c n (es.map ec) s i) es.length (fun i s=>s=Zn (wtF c (es.take i))) (by omega) (fun k i s hi hs next=>?_) E0 rfl
 subst hs
 refine Ze (ZoE ..) (Zb (fun hh=>?_) fun hh=>?_)
 ·rw [Xi] at hh
  simp only [CQ] at hh
  have hi':i < es.length:=by omega
  obtain ⟨f1,f2,_⟩:=hf.e _ (Xy hi')
  have hgl:=Zh9 hf c i (by omega)
  refine Ze (ZX hi' _) (Zc (ZD (by show 0+(es[i].s.map mc).length≤_;rw [Xi];omega) (by decide)) (Zc (ZD (by show (es[i].s.map mc).length+(es[i].q.map mc).length≤_;rw [Xi,Xi];omega) (by decide)) ?_))
  obtain ⟨l,hl⟩:∃ l,l=es[i].s++es[i].q:=⟨_,rfl⟩
  have hlm:(ev es[i]).2.2.2++(ev es[i]).2.2.1=l.map mc:=by rw [hl,XJ];rfl
  have hll:l.length=es[i].s.length+es[i].q.length:=by rw [hl,Xr]
  rw [hlm]
  refine Zu (F:=fun k' (s:LL) j=>Zkq (F34.lp [0,1,0] 0 r0 k) k' c n (es.map ec) s (i:Int) (l.map mc) j) l.length (fun j s=>s=Zn (wtF c (es.take i)++wt c (l.take j))) (by omega) (fun k' j s hj hs nx=>?_) _ (by simp [wt])
  subst hs
  refine Ze (Zpe ..) (Zb (fun hh=>?_) fun hh=>?_)
  ·rw [Xi] at hh
   simp only [CQ] at hh
   have hj':j < l.length:=by omega
   have htl:=ZiP c (l.take j)
   rw [Xt] at htl
   refine Ze (Jo hj' _) (Zb (fun hc=>Ze (Jo hj' _) (Zb (fun ht=>Ze (Jo hj' _) (Zc (Wi (by simp [Zn];omega) (by decide)) ?_)) fun ht=>?_)) fun hc=>?_)
   ·simp only [CQ,mv] at hc ht
    rw [Ji hj (by omega)]
    refine nx hj' _ ?_
    rw [Za6 hj',if_pos ⟨hc,ht⟩,← Xw (wtF c (es.take i)) (wt c (l.take j)) [l[j].t],Ztz]
    rfl
   ·simp only [CQ,mv] at hc ht
    rw [Ji hj (by omega)]
    exact nx hj' _ (by rw [Za6 hj',if_neg (by omega)])
   ·simp only [CQ,mv] at hc
    rw [Ji hj (by omega)]
    exact nx hj' _ (by rw [Za6 hj',if_neg (fun h=>hc h.1)])
  ·rw [Xi] at hh
   simp only [CQ] at hh
   have:j=l.length:=by omega
   subst this
   rw [XW,Ji hi (by omega),hl,← Zjn hi']
   exact next hi' _ rfl
 ·rw [Xi] at hh
  simp only [CQ] at hh
  have:i=es.length:=by omega
  subst this
  have hgl:=Zh9 hf c es.length (XA _)
  rw [XW] at hgl ⊢
  refine Ze (ZtG _ (by omega)) (Zd ?_)
  rw [Za0 (ZnD (wtF c es)) (ZnD (wtE c es)) (WF _) (WF _) ((Zao _).trans ((ZiX c es).trans (Zao _).symm))]
theorem p16 (n:Int) (es:List Ep) (hf:Few es) (c:Int):∃ l:List Int,g16 n (es.map ec) c=Xa (Zn l)∧g34 n (es.map ec) c=Xa (Zn l)∧l.length < 100000:=by
 rcases ZaJ n es hf with h | ⟨hA,hB⟩
 ·have hlen:=h.len
  have hgl:=Zfq h c es.length (XA _)
  rw [XW] at hgl
  exact ⟨_,s16 n es h c,r34 n es h hf c,by rw [(Zao _).length_eq];omega⟩
 ·refine ⟨[],?_,?_,by decide⟩
  ·rw [Zqk,hA];rfl
  ·rw [Zqe,hB];rfl
theorem Zpq (n:Int) (es:List Ep) (hf:Few es):∃ b,g22 n (es.map ec)=Xa b∧g23 n (es.map ec)=Xa b:=by
 rcases ZaJ n es hf with h | ⟨hA,hB⟩
 ·exact ⟨Xb,s22 n es h,s23 n es h⟩
 ·exact ⟨Xc,hA,hB⟩
theorem YY {P:Bool→Prop} {a:Int} {x:Option Bool} (k:Ret P x):Ret P (if (cop .neq a a)=Xb then Xa Xc else x):=
 Zb (fun h=>by simp only [CQ] at h;exact (h rfl).elim) fun _=>k
theorem KC {P:Bool→Prop} {o:Option Bool} (h:o=Xa Xb) {x:Option Bool} (k:Ret P x):Ret P (o.bind fun r=>if (!r)=Xb then Xa Xc else x):=
 Za h (Zb (fun h=>by cases h) fun _=>k)
theorem s6 (n:Int) (es:List Ep) (hw:∀ e∈es,∀ m∈e.q++e.s,∃ l:List Int,m.w=ZR l) (x2 x3 x4 x5:Int) (l:List Int):g6 n (es.map ec) x2 x3 x4 x5 (ZR l)=Xa Xb:=by
 refine ZA ?_
 rw [ZtC]
 refine Yc (s18 n es) fun b hb=>Zb (fun _=>Za s8 (Zd rfl)) fun hb2=>Zb (fun _=>Za s8 (Zd rfl)) fun hl=>?_
 have hf:Few es:=hb (by cases b<;>simp_all)
 have hwl:(ZR l).length=l.length:=by simp [ZR]
 rw [hwl] at hl
 simp only [CQ] at hl
 have hwd:Wd es:=fun e he m hm=>by
  obtain ⟨l,h1⟩:=hw e he m hm
  have h2:=(hf.e e he).2.2 m hm
  refine ⟨l,h1,?_⟩
  rw [h1] at h2
  have:(ZR l).length=l.length:=by simp [ZR]
  omega
 have hws:WOk (ZR l):=⟨l,rfl,by omega⟩
 have hlen:=hf.len
 have hS:Zc1 es:=⟨by omega,(fun e he=>by obtain ⟨h1,h2,_⟩:=hf.e e he;exact ⟨by omega,by omega⟩),hwd⟩
 refine Za (s19 n es (by omega) hf.copy) (Zc (ZD (by show 0+(ZR l).length≤_;omega) (by decide)) ?_)
 rw [show Yl (n,es.map en).2=es.map ec from Zcz es]
 obtain ⟨n1,e1,c1,a1,b1,m1⟩:=p9 n es hf hwd x2 x3
 refine Za a1 (Za b1 (KC (s21 n1 e1 m1) (YY ?_)))
 obtain ⟨vb,a2,b2⟩:=Zpq n es hf
 refine Za a2 (Za b2 (Zb (fun h=>by simp at h) fun _=>?_))
 obtain ⟨n3,e3,l3,c3,a3,b3,m3,k3,w3⟩:=p24 n es hf hwd x2
 refine Za a3 (Za b3 (KC (s21 n3 e3 m3) (YY (KC (s26 l3 k3 w3) ?_))))
 obtain ⟨n4,e4,c4,a4,b4,m4⟩:=p13 n es hf hwd x2 x3 (ZR l) x5 hws
 refine Za a4 (Za b4 (KC (s21 n4 e4 m4) (YY ?_)))
 obtain ⟨n5,e5,t5,c5,a5,b5,m5⟩:=p12 n es hf hwd x2 x3 (ZR l) x5 hws
 refine Za a5 (Za b5 (KC (s21 n5 e5 m5) (YY (YY ?_))))
 obtain ⟨n6,e6,t6,d6,w6,s6,c6,a6,b6,m6,k6⟩:=p14 n es hf hwd x2 x3
 refine Za a6 (Za b6 (KC (s21 n6 e6 m6) (YY (KC (s30 [⟨t6,d6,w6,s6⟩] (by simp) (fun m hm=>?_)) ?_))))
 ·rw [XH] at hm;subst hm;exact k6
 obtain ⟨n7,e7,t7,d7,f7,w7,c7,a7,b7,m7,k7⟩:=p17 n es hf hwd x4 x3 (ZR l) hws
 refine Za a7 (Za b7 (KC (s21 n7 e7 m7) (YY (KC (s26 [(t7,d7,f7,w7)] (by simp) (fun m hm=>?_)) ?_))))
 ·rw [XH] at hm;subst hm;exact k7
 obtain ⟨n8,e8,l8,c8,a8,b8,m8,k8,w8⟩:=p32 n es hf hwd x3
 refine Za a8 (Za b8 (KC (s21 n8 e8 m8) (YY (KC (s26 l8 k8 w8) ?_))))
 obtain ⟨T,a9,b9,hT⟩:=p16 n es hf x3
 refine Za a9 (Za b9 (YY ?_))
 refine KM (F:=fun k (_:Unit) i=>Ztk k (ZR l) n (es.map ec) n (es.map ec) (ZR l) (Zn T) (Zn T) i) (n:=T.length) (fun _ _=>True) (by omega) (fun k i _ hi _ next=>?_) (fun k _ _=>?_) () trivial
 ·refine Ze (ZkZ ..) (Zb (fun _=>Ze (Kw hi _) (Ze (Kw hi _) (YY ?_))) fun hh=>?_)
  ·rw [Zaf (by omega)]
   exact next () trivial
  ·rw [Zcq] at hh
   simp only [CQ] at hh;omega
 ·refine Ze (ZkZ ..) (Zb (fun hh=>?_) fun _=>?_)
  ·rw [Zcq] at hh
   simp only [CQ] at hh;omega
  ·refine Za (s21 n es hS) (Zb (fun _=>Za (s35 _ hws) (Zb (fun _=>Za s8 (Zd rfl)) fun h=>(h rfl).elim)) fun h=>(h rfl).elim)
theorem Zrg:Try.prog.cellsOf 41=4:=by kernel_rfl
theorem ZqO:Try.prog.cellsOf 80=4:=by kernel_rfl
theorem ZoD {d:Nat} {cs:List AV} (h:TyR Try.prog (d+2) 22 cs):∃ l,cs = [.slice Xc 1 (ZR l)]:=by
 rw [TyR] at h
 simp only [Try.underlying22,ZlS] at h
 obtain ⟨xs,h1,h2,h3⟩:=h
 obtain ⟨l,rfl,h5⟩:=VW (f:=Ztd) (p:=fun _=>True) xs fun y hy=>by
  obtain ⟨z,hz⟩:=ZpT (h3 y hy)
  exact ⟨z,hz,trivial⟩
 exact ⟨l,h1⟩
def ZtQ (m:Ms):Prop:=∃ l:List Int,m.w=ZR l
theorem ZqR {d:Nat} {cs:List AV} (h:TyR Try.prog (d+3) 41 cs):∃ m:Ms,cs=mc m∧ZtQ m:=by
 rw [TyR] at h
 simp only [Try.underlying41] at h
 obtain ⟨ps,rfl,hl,hp⟩:=h
 obtain ⟨p0,p1,p2,p3,rfl⟩:∃ p0 p1 p2 p3,ps = [p0,p1,p2,p3]:=by
  match ps,hl with
  | [p0, p1, p2, p3], _ => exact ⟨p0, p1, p2, p3, rfl⟩
 obtain ⟨a,rfl⟩:=Zc0 (hp 0 _ _ rfl rfl)
 obtain ⟨b,rfl⟩:=Zc0 (hp 1 _ _ rfl rfl)
 obtain ⟨l,rfl⟩:=ZoD (hp 2 _ _ rfl rfl)
 obtain ⟨c,rfl⟩:=Zc0 (hp 3 _ _ rfl rfl)
 exact ⟨⟨a,b,ZR l,c⟩,rfl,l,rfl⟩
theorem ZiH {d:Nat} {cs:List AV} (h:TyR Try.prog (d+4) 62 cs):∃ l:List Ms,cs = [.slice Xc 4 (l.map mc)]∧∀ m∈l,ZtQ m:=by
 rw [TyR] at h
 simp only [Try.underlying62,Zrg] at h
 obtain ⟨xs,h1,h2,h3⟩:=h
 obtain ⟨l,rfl,h5⟩:=VW (f:=mc) (p:=ZtQ) xs fun y hy=>ZqR (h3 y hy)
 exact ⟨l,h1,h5⟩
def WEp (e:Ep):Prop:=∀ m∈e.q++e.s,∃ l:List Int,m.w=ZR l
theorem Zto {d:Nat} {cs:List AV} (h:TyR Try.prog (d+5) 80 cs):∃ e:Ep,cs=ec e∧WEp e:=by
 rw [TyR] at h
 simp only [Try.underlying80] at h
 obtain ⟨ps,rfl,hl,hp⟩:=h
 obtain ⟨p0,p1,p2,p3,rfl⟩:∃ p0 p1 p2 p3,ps = [p0,p1,p2,p3]:=by
  match ps,hl with
  | [p0, p1, p2, p3], _ => exact ⟨p0, p1, p2, p3, rfl⟩
 obtain ⟨a,rfl⟩:=Zc0 (hp 0 _ _ rfl rfl)
 obtain ⟨b,rfl⟩:=Zc0 (hp 1 _ _ rfl rfl)
 obtain ⟨q,rfl,hq⟩:=ZiH (hp 2 _ _ rfl rfl)
 obtain ⟨s,rfl,hs⟩:=ZiH (hp 3 _ _ rfl rfl)
 refine ⟨⟨a,b,q,s⟩,rfl,fun m hm=>?_⟩
 rcases Xs.1 hm with hm | hm
 ·exact hq m hm
 ·exact hs m hm
theorem ZsD {d:Nat} {cs:List AV} (h:TyR Try.prog (d+6) 26 cs):∃ l:List Ep,cs = [.slice Xc 4 (l.map ec)]∧∀ e∈l,WEp e:=by
 rw [TyR] at h
 simp only [Try.underlying26,ZqO] at h
 obtain ⟨xs,h1,h2,h3⟩:=h
 obtain ⟨l,rfl,h5⟩:=VW (f:=ec) (p:=WEp) xs fun y hy=>Zto (h3 y hy)
 exact ⟨l,h1,h5⟩
theorem ZnU {x:AV} (h:ZbA Try.prog 8 28 x):∃ (n:Int) (es:List Ep),x = .agg [I n,.slice Xc 4 (es.map ec)]∧∀ e∈es,∀ m∈e.q++e.s,∃ l:List Int,m.w=ZR l:=by
 simp only [ZbA,Try.underlying28] at h
 obtain ⟨cs,rfl,h⟩:=h
 rw [TyR] at h
 simp only [Try.underlying28] at h
 obtain ⟨ps,rfl,hl,hp⟩:=h
 obtain ⟨p0,p1,rfl⟩:∃ p0 p1,ps = [p0,p1]:=by
  match ps,hl with
  | [p0, p1], _ => exact ⟨p0, p1, rfl⟩
 obtain ⟨a,rfl⟩:=Zc0 (hp 0 _ _ rfl rfl)
 obtain ⟨es,rfl,hes⟩:=ZsD (hp 1 _ _ rfl rfl)
 exact ⟨a,es,rfl,hes⟩
end Go.Proofs.Ytigknndkmlhmfaa
