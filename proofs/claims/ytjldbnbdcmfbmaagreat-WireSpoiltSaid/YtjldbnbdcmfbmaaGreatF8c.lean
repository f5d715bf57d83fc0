/- Functions of the program, as what they compute. -/
import Derived.Test.YtjldbnbdcmfbmaaGreatF8b
namespace Go.Proofs.YtjldbnbdcmfbmaaGreat
open Go Go.AM
set_option linter.unusedVariables false
set_option maxRecDepth 100000
noncomputable def F13:Fn:=⟨16,[4],[],[],0,[],[],Tryz.f13,[.c (.int .i64),.c (.int .i64)],[.c (.int .i64)],[]⟩
theorem ZnE:F13.S.Ok Tryz.prog 13:=F13.ok Tryz.func13 (by kernel_rfl) trivial
noncomputable def g13 (a b:Int):Option (Int):=F13.S.g [.i a,.i b]
theorem ZvF (b a:Int):g13 b a =
 (if (cop .lss a 1) then
 some (0)
 else
 ZE ((a:Int)≠0)<|
 if (cop .lss (iop .rem .i64 b a) 0) then
 some ((iop .add .i64 (iop .rem .i64 b a) a))
 else
 some ((iop .rem .i64 b a))):=by kernel_rfl
noncomputable def Zzb:Fn:=⟨20,[4],[],[],0,[],[],Tryz.f156,[.c (.int .i64),.c (.int .i64)],[.agg [.int .i64,.int .i64]],[(13,F13.S)]⟩
theorem ZAn:Zzb.S.Ok Tryz.prog 156:=Zzb.ok Tryz.func156 (by kernel_rfl) ⟨ZnE,trivial⟩
noncomputable def ZBi (a b:Int):Option (Int×Int):=Zzb.S.g [.i a,.i b]
theorem Zsz (b c:Int):ZBi b c =
 ((g13 c 11).bind fun a=>
 ZE ((0:Int)≤(IntKind.wrap .u64 (iop .sub .i64 16 (iop .add .i64 6 a))))<|
 (g13 b (iop .shl .i64 1 (IntKind.wrap .u64 (iop .sub .i64 16 (iop .add .i64 6 a))))).bind fun d=>
 ZE ((0:Int)≤(IntKind.wrap .u64 (iop .add .i64 6 a)))<|
 some ((iop .shl .i64 d (IntKind.wrap .u64 (iop .add .i64 6 a))),(iop .add .i64 6 a))):=by kernel_rfl
noncomputable def F83:Fn:=⟨14,[4],[],[],0,[],[],Tryz.f83,[.c (.int .i64),.c (.int .i64)],[.agg hs27],[(156,Zzb.S)]⟩
theorem ZE2:F83.S.Ok Tryz.prog 83:=F83.ok Tryz.func83 (by kernel_rfl) ⟨ZAn,trivial⟩
noncomputable def g83 (a b:Int):Option (Qt34):=F83.S.g [.i a,.i b]
theorem ZvK (a b:Int):g83 a b =
 ((ZBi a b).bind fun c=>
 some (1,c.1,c.2,7,0,0,false)):=by kernel_rfl
noncomputable def ZuB:Fn:=⟨21,[4],[(2,[(0,.c (.slice 13)),(3,.box [.int .i64,.int .i64,.int .i64]),(5,.c (.int .i64))])],[],0,[],[],Tryz.f157,[.c (.slice 13),.agg [.int .i64,.int .i64,.int .i64]],[.c (.int .i64)],[]⟩
theorem Zvw:ZuB.S.Ok Tryz.prog 157:=ZuB.ok Tryz.func157 (by kernel_rfl) trivial
noncomputable def ZyF (a:LL) (b c d:Int):Option (Int):=ZuB.S.g [.l a,.i b,.i c,.i d]
noncomputable def Zeh (k:Nat) (a:LL) (b c d e:Int):Option (Int):=ZuB.lp [0] 0 r0 k [.l a,.i b,.i c,.i d,.i e]
theorem ZgV (k:Nat) (b:LL) (c d e a:Int):Zeh (k+1) b c d e a =
 (if (cop .lss a (List.length b:Int)) then
 Zm b a hs12 fun (f:Qt25)=>
 if ((cop .eql f.2.2.1 c)&&((cop .eql f.2.2.2.1 d)&&((cop .eql f.2.2.2.2.1 e)&&true))) then
 some (a)
 else
 Zeh k b c d e (iop .add .i64 a 1)
 else
 some ((-1))):=by kernel_rfl
theorem Zs0 (a:LL) (b c d:Int):ZyF a b c d =
 (Zeh Zr a b c d 0):=by kernel_rfl
noncomputable def Zwi:Fn:=⟨13,[2],[],[],0,[],[],Tryz.f192,[.agg [.int .i64,.int .i64]],[.c (.int .i64)],[(185,ZrM.S)]⟩
theorem Zu7:Zwi.S.Ok Tryz.prog 192:=Zwi.ok Tryz.func192 (by kernel_rfl) ⟨Zqb,trivial⟩
noncomputable def ZuK (a b:Int):Option (Int):=Zwi.S.g [.i a,.i b]
theorem ZrV (b a:Int):ZuK b a =
 ((Zro b a).bind fun c=>
 if (!c) then
 some (0)
 else
 ZE ((0:Int)≤(IntKind.wrap .u64 a))<|
 some ((iop .add .i64 b (iop .shl .i64 1 (IntKind.wrap .u64 a))))):=by kernel_rfl
noncomputable def Zyh:Fn:=⟨25,[4],[],[],0,[],[],Tryz.f158,[.agg [.int .i64,.int .i64],.agg [.int .i64,.int .i64]],[.c (.bool)],[(185,ZrM.S),(192,Zwi.S)]⟩
theorem ZzB:Zyh.S.Ok Tryz.prog 158:=Zyh.ok Tryz.func158 (by kernel_rfl) ⟨Zqb,⟨Zu7,trivial⟩⟩
noncomputable def ZAQ (a b c d:Int):Option (Bool):=Zyh.S.g [.i a,.i b,.i c,.i d]
theorem ZtJ (a c b d:Int):ZAQ a c b d =
 ((Zro a c).bind fun e=>
 if e then
 (Zro b d).bind fun f=>
 if f then
 if (cop .leq a b) then
 (ZuK b d).bind fun g=>
 (ZuK a c).bind fun h=>
 some ((cop .leq g h))
 else
 some (false)
 else
 some (false)
 else
 some (false)):=by kernel_rfl
noncomputable def Zzc:Fn:=⟨25,[4],[],[],0,[],[],Tryz.f160,[.agg [.int .i64,.int .i64],.agg [.int .i64,.int .i64]],[.c (.bool)],[(185,ZrM.S),(192,Zwi.S)]⟩
theorem ZBC:Zzc.S.Ok Tryz.prog 160:=Zzc.ok Tryz.func160 (by kernel_rfl) ⟨Zqb,⟨Zu7,trivial⟩⟩
noncomputable def ZuR (a b c d:Int):Option (Bool):=Zzc.S.g [.i a,.i b,.i c,.i d]
theorem Ztf (a c b d:Int):ZuR a c b d =
 ((Zro a c).bind fun e=>
 if e then
 (Zro b d).bind fun f=>
 if f then
 (ZuK b d).bind fun g=>
 if (cop .lss a g) then
 (ZuK a c).bind fun h=>
 some ((cop .lss b h))
 else
 some (false)
 else
 some (false)
 else
 some (false)):=by kernel_rfl
noncomputable def F84:Fn:=⟨64,[6],[(3,[(0,.c (.slice 13)),(2,.c (.slice 7)),(7,.c (.int .i64)),(8,.c (.int .i64))]),(6,[(0,.c (.slice 13)),(2,.c (.slice 7)),(7,.c (.int .i64)),(8,.c (.int .i64)),(9,.c (.int .i64))])],[],0,[],[],Tryz.f84,[.c (.slice 13),.agg [.int .i64,.int .i64,.int .i64],.c (.slice 7)],[.c (.bool)],[(157,ZuB.S),(159,Zx0.S),(158,Zyh.S),(160,Zzc.S)]⟩
theorem ZEB:F84.S.Ok Tryz.prog 84:=F84.ok Tryz.func84 (by kernel_rfl) ⟨Zvw,⟨ZvY,⟨ZzB,⟨ZBC,trivial⟩⟩⟩⟩
noncomputable def g84 (a:LL) (b c d:Int) (e:LL):Option (Bool):=F84.S.g [.l a,.i b,.i c,.i d,.l e]
noncomputable def Zdd (rec0:List V→Option (Bool)) (k:Nat) (a b:LL) (c d e:Int):Option (Bool):=F84.lp [3,0] 1 (ZuF r0 0 rec0) k [.l a,.l b,.i c,.i d,.i e]
theorem ZjO (rec0:List V→Option (Bool)) (k:Nat) (c d:LL) (f e h:Int):Zdd rec0 (k+1) c d f e h =
 (if (cop .lss h (List.length c:Int)) then
 Zm c h hs12 fun (a:Qt25)=>
 if (cop .geq f 0) then
 if (cop .eql a.2.2.2.2.2.2.1 1) then
 (Zms a.2.2.2.2.2.2.1 a.2.2.2.2.2.2.2.1 a.2.2.2.2.2.2.2.2.1 a.2.2.2.2.2.2.2.2.2.1 a.2.2.2.2.2.2.2.2.2.2.1 a.2.2.2.2.2.2.2.2.2.2.2.1 (d4 (d8 a))).bind fun g=>
 Zm c f hs12 fun (b:Qt25)=>
 (Zms b.2.2.2.2.2.2.1 b.2.2.2.2.2.2.2.1 b.2.2.2.2.2.2.2.2.1 b.2.2.2.2.2.2.2.2.2.1 b.2.2.2.2.2.2.2.2.2.2.1 b.2.2.2.2.2.2.2.2.2.2.2.1 (d4 (d8 b))).bind fun o=>
 (ZAQ g.1 g.2 o.1 o.2).bind fun r=>
 (Zms a.2.2.2.2.2.2.1 a.2.2.2.2.2.2.2.1 a.2.2.2.2.2.2.2.2.1 a.2.2.2.2.2.2.2.2.2.1 a.2.2.2.2.2.2.2.2.2.2.1 a.2.2.2.2.2.2.2.2.2.2.2.1 (d4 (d8 a))).bind fun p=>
 Zm d e hs27 fun (j:Qt34)=>
 (Zms j.1 j.2.1 j.2.2.1 j.2.2.2.1 j.2.2.2.2.1 j.2.2.2.2.2.1 j.2.2.2.2.2.2).bind fun q=>
 (ZuR p.1 p.2 q.1 q.2).bind fun s=>
 if s then
 if (!r) then
 some (true)
 else
 Zdd rec0 k c d f e (iop .add .i64 h 1)
 else
 Zdd rec0 k c d f e (iop .add .i64 h 1)
 else
 (Zms a.2.2.2.2.2.2.1 a.2.2.2.2.2.2.2.1 a.2.2.2.2.2.2.2.2.1 a.2.2.2.2.2.2.2.2.2.1 a.2.2.2.2.2.2.2.2.2.2.1 a.2.2.2.2.2.2.2.2.2.2.2.1 (d4 (d8 a))).bind fun g=>
 Zm d e hs27 fun (b:Qt34)=>
 (Zms b.1 b.2.1 b.2.2.1 b.2.2.2.1 b.2.2.2.2.1 b.2.2.2.2.2.1 b.2.2.2.2.2.2).bind fun m=>
 (ZuR g.1 g.2 m.1 m.2).bind fun n=>
 if n then
 some (true)
 else
 Zdd rec0 k c d f e (iop .add .i64 h 1)
 else
 (Zms a.2.2.2.2.2.2.1 a.2.2.2.2.2.2.2.1 a.2.2.2.2.2.2.2.2.1 a.2.2.2.2.2.2.2.2.2.1 a.2.2.2.2.2.2.2.2.2.2.1 a.2.2.2.2.2.2.2.2.2.2.2.1 (d4 (d8 a))).bind fun g=>
 Zm d e hs27 fun (b:Qt34)=>
 (Zms b.1 b.2.1 b.2.2.1 b.2.2.2.1 b.2.2.2.2.1 b.2.2.2.2.2.1 b.2.2.2.2.2.2).bind fun m=>
 (ZuR g.1 g.2 m.1 m.2).bind fun n=>
 if n then
 some (true)
 else
 Zdd rec0 k c d f e (iop .add .i64 h 1)
 else
 rec0 [.l c,.l d,.i f,.i (iop .add .i64 e 1)]):=by kernel_rfl
noncomputable def Zop (k:Nat) (a b:LL) (c d:Int):Option (Bool):=F84.lp [2] 0 r0 k [.l a,.l b,.i c,.i d]
theorem Zj3 (k:Nat) (c a:LL) (d b:Int):Zop (k+1) c a d b =
 (if (cop .lss b (List.length a:Int)) then
 Zdd (F84.lp [2] 0 r0 k) Zr c a d b 0
 else
 some (false)):=by kernel_rfl
theorem Zw9 (a:LL) (b c d:Int) (e:LL):g84 a b c d e =
 ((ZyF a b c d).bind fun f=>
 Zop Zr a e f 0):=by kernel_rfl
noncomputable def ZvC:Fn:=⟨31,[6],[(2,[(0,.c (.slice 13)),(1,.c (.int .i64)),(2,.c (.int .i64)),(7,.c (.int .i64))])],[],0,[],[],Tryz.f193,[.c (.slice 13),.c (.int .i64),.c (.int .i64)],[.c (.int .i64)],[]⟩
theorem ZAR:ZvC.S.Ok Tryz.prog 193:=ZvC.ok Tryz.func193 (by kernel_rfl) trivial
noncomputable def ZAW (a:LL) (b c:Int):Option (Int):=ZvC.S.g [.l a,.i b,.i c]
noncomputable def Zdx (k:Nat) (a:LL) (b c d:Int):Option (Int):=ZvC.lp [0] 0 r0 k [.l a,.i b,.i c,.i d]
theorem Zh4 (k:Nat) (b:LL) (c d a:Int):Zdx (k+1) b c d a =
 (if (cop .lss a (List.length b:Int)) then
 Zm b a hs12 fun (e:Qt25)=>
 if (cop .eql e.1 c) then
 Zm b a hs12 fun (f:Qt25)=>
 if (cop .eql f.2.1 d) then
 some (a)
 else
 Zdx k b c d (iop .add .i64 a 1)
 else
 Zdx k b c d (iop .add .i64 a 1)
 else
 some ((-1))):=by kernel_rfl
theorem Zsy (a:LL) (b c:Int):ZAW a b c =
 (Zdx Zr a b c 0):=by kernel_rfl
noncomputable def F76:Fn:=⟨5,[2],[],[],0,[],[],Tryz.f76,[.c (.slice 3)],[.c (.own false 25)],[]⟩
theorem ZDl:F76.S.Ok Tryz.prog 76:=F76.ok Tryz.func76 (by kernel_rfl) trivial
noncomputable def g76 (a:LL):Option (LL):=F76.S.g [.l a]
theorem ZxU (a:LL):g76 a =
 (ZE (Jw E0 a 24)<|
 some (a)):=by kernel_rfl
noncomputable def F25:Fn:=⟨8,[2],[],[],0,[],[],Tryz.f25,[.agg hs16],[.agg hs16],[(76,F76.S)]⟩
theorem Zv3:F25.S.Ok Tryz.prog 25:=F25.ok Tryz.func25 (by kernel_rfl) ⟨ZDl,trivial⟩
noncomputable def g25 (a c d:Int) (e:LL) (f h j k m n:Int) (o:Bool):Option (Qt31):=F25.S.g [.i a,.i c,.i d,.l e,.i f,.i h,.i j,.i k,.i m,.i n,.b o]
theorem ZvD (a b c:Int) (d:LL) (e f g h i j:Int) (k:Bool):g25 a b c d e f g h i j k =
 ((g76 d).bind fun l=>
 some (a,b,c,l,e,f,g,h,i,j,k)):=by kernel_rfl
noncomputable def ZxZ:Fn:=⟨32,[2],[(3,[(0,.c (.slice 13)),(3,.c (.own false 71)),(4,.c (.int .i64))])],[],0,[],[],Tryz.f194,[.c (.slice 13)],[.c (.own false 71)],[(25,F25.S)]⟩
theorem ZAf:ZxZ.S.Ok Tryz.prog 194:=ZxZ.ok Tryz.func194 (by kernel_rfl) ⟨Zv3,trivial⟩
noncomputable def Zrk (a:LL):Option (LL):=ZxZ.S.g [.l a]
noncomputable def ZeZ (k:Nat) (a b:LL) (c:Int):Option (LL):=ZxZ.lp [0] 0 r0 k [.l a,.l b,.i c]
theorem ZgD (k:Nat) (c e:LL) (d:Int):ZeZ (k+1) c e d =
 (if (cop .lss d (List.length c:Int)) then
 Zm c d hs12 fun (f:Qt25)=>
 Zm c d hs12 fun (g:Qt25)=>
 Zm c d hs12 fun (b:Qt25)=>
 (g25 b.2.2.1 b.2.2.2.1 b.2.2.2.2.1 b.2.2.2.2.2.1 b.2.2.2.2.2.2.1 b.2.2.2.2.2.2.2.1 b.2.2.2.2.2.2.2.2.1 b.2.2.2.2.2.2.2.2.2.1 b.2.2.2.2.2.2.2.2.2.2.1 b.2.2.2.2.2.2.2.2.2.2.2.1 (d4 (d8 b))).bind fun a=>
 ZE (Jw e (E0++[[AV.val (.int .i64 f.1),AV.val (.int .i64 g.2.1),AV.val (.int .i64 a.1),AV.val (.int .i64 a.2.1),AV.val (.int .i64 a.2.2.1),AV.slice false 3 a.2.2.2.1,AV.val (.int .i64 a.2.2.2.2.1),AV.val (.int .i64 a.2.2.2.2.2.1),AV.val (.int .i64 a.2.2.2.2.2.2.1),AV.val (.int .i64 a.2.2.2.2.2.2.2.1),AV.val (.int .i64 a.2.2.2.2.2.2.2.2.1),AV.val (.int .i64 a.2.2.2.2.2.2.2.2.2.1),AV.val (.bool a.2.2.2.2.2.2.2.2.2.2)]]) 120)<|
 ZeZ k c (e++(E0++[[AV.val (.int .i64 f.1),AV.val (.int .i64 g.2.1),AV.val (.int .i64 a.1),AV.val (.int .i64 a.2.1),AV.val (.int .i64 a.2.2.1),AV.slice false 3 a.2.2.2.1,AV.val (.int .i64 a.2.2.2.2.1),AV.val (.int .i64 a.2.2.2.2.2.1),AV.val (.int .i64 a.2.2.2.2.2.2.1),AV.val (.int .i64 a.2.2.2.2.2.2.2.1),AV.val (.int .i64 a.2.2.2.2.2.2.2.2.1),AV.val (.int .i64 a.2.2.2.2.2.2.2.2.2.1),AV.val (.bool a.2.2.2.2.2.2.2.2.2.2)]])) (iop .add .i64 d 1)
 else
 some (e)):=by kernel_rfl
theorem Zsb (a:LL):Zrk a =
 (ZeZ Zr a E0 0):=by kernel_rfl
noncomputable def Zwo:Fn:=⟨62,[4,5],[(4,[(0,.c (.slice 13)),(3,.box hs12),(6,.c (.int .i64))])],[],0,[],[],Tryz.f161,[.c (.slice 13),.agg hs12],[.c (.own false 71),.c (.bool)],[(157,ZuB.S),(193,ZvC.S),(82,F82.S),(194,ZxZ.S),(25,F25.S)]⟩
theorem ZCj:Zwo.S.Ok Tryz.prog 161:=Zwo.ok Tryz.func161 (by kernel_rfl) ⟨Zvw,⟨ZAR,⟨ZzG,⟨ZAf,⟨Zv3,trivial⟩⟩⟩⟩⟩
noncomputable def ZBe (a:LL) (c d e f h:Int) (j:LL) (k m n o p q:Int) (r:Bool):Option (LL×Bool):=Zwo.S.g [.l a,.i c,.i d,.i e,.i f,.i h,.l j,.i k,.i m,.i n,.i o,.i p,.i q,.b r]
noncomputable def Zeo (k:Nat) (a:LL) (c d e f g:Int) (h:LL) (j m n o p q:Int) (r:Bool) (s:Int):Option (LL×Bool):=Zwo.lp [0,1,0,1,0] 0 r0 k [.l a,.i c,.i d,.i e,.i f,.i g,.l h,.i j,.i m,.i n,.i o,.i p,.i q,.b r,.i s]
theorem ZgN (k:Nat) (d:LL) (e f h i j:Int) (l:LL) (m n o p q r:Int) (s:Bool) (c:Int):Zeo (k+1) d e f h i j l m n o p q r s c =
 (if (cop .lss c (List.length d:Int)) then
 Zm d c hs12 fun (g:Qt25)=>
 (g82 h i j g.2.2.1 g.2.2.2.1 g.2.2.2.2.1).bind fun w=>
 if (!w) then
 Zeo k d e f h i j l m n o p q r s (iop .add .i64 c 1)
 else
 ZE ((0:Int)≤c)<|
 ZE ((c:Int)≤(List.length d:Int))<|
 (Zrk (List.take (Int.toNat c) d)).bind fun t=>
 (g25 h i j l m n o p q r s).bind fun a=>
 ZE (Jw t (E0++[[AV.val (.int .i64 e),AV.val (.int .i64 f),AV.val (.int .i64 a.1),AV.val (.int .i64 a.2.1),AV.val (.int .i64 a.2.2.1),AV.slice false 3 a.2.2.2.1,AV.val (.int .i64 a.2.2.2.2.1),AV.val (.int .i64 a.2.2.2.2.2.1),AV.val (.int .i64 a.2.2.2.2.2.2.1),AV.val (.int .i64 a.2.2.2.2.2.2.2.1),AV.val (.int .i64 a.2.2.2.2.2.2.2.2.1),AV.val (.int .i64 a.2.2.2.2.2.2.2.2.2.1),AV.val (.bool a.2.2.2.2.2.2.2.2.2.2)]]) 120)<|
 ZE ((0:Int)≤c)<|
 ZE ((c:Int)≤(List.length d:Int))<|
 (Zrk (List.drop (Int.toNat c) d)).bind fun u=>
 ZE (Jw (t++(E0++[[AV.val (.int .i64 e),AV.val (.int .i64 f),AV.val (.int .i64 a.1),AV.val (.int .i64 a.2.1),AV.val (.int .i64 a.2.2.1),AV.slice false 3 a.2.2.2.1,AV.val (.int .i64 a.2.2.2.2.1),AV.val (.int .i64 a.2.2.2.2.2.1),AV.val (.int .i64 a.2.2.2.2.2.2.1),AV.val (.int .i64 a.2.2.2.2.2.2.2.1),AV.val (.int .i64 a.2.2.2.2.2.2.2.2.1),AV.val (.int .i64 a.2.2.2.2.2.2.2.2.2.1),AV.val (.bool a.2.2.2.2.2.2.2.2.2.2)]])) u 120)<|
 some (((t++(E0++[[AV.val (.int .i64 e),AV.val (.int .i64 f),AV.val (.int .i64 a.1),AV.val (.int .i64 a.2.1),AV.val (.int .i64 a.2.2.1),AV.slice false 3 a.2.2.2.1,AV.val (.int .i64 a.2.2.2.2.1),AV.val (.int .i64 a.2.2.2.2.2.1),AV.val (.int .i64 a.2.2.2.2.2.2.1),AV.val (.int .i64 a.2.2.2.2.2.2.2.1),AV.val (.int .i64 a.2.2.2.2.2.2.2.2.1),AV.val (.int .i64 a.2.2.2.2.2.2.2.2.2.1),AV.val (.bool a.2.2.2.2.2.2.2.2.2.2)]]))++u),true)
 else
 ZE ((0:Int)≤c)<|
 ZE ((c:Int)≤(List.length d:Int))<|
 (Zrk (List.take (Int.toNat c) d)).bind fun g=>
 (g25 h i j l m n o p q r s).bind fun b=>
 ZE (Jw g (E0++[[AV.val (.int .i64 e),AV.val (.int .i64 f),AV.val (.int .i64 b.1),AV.val (.int .i64 b.2.1),AV.val (.int .i64 b.2.2.1),AV.slice false 3 b.2.2.2.1,AV.val (.int .i64 b.2.2.2.2.1),AV.val (.int .i64 b.2.2.2.2.2.1),AV.val (.int .i64 b.2.2.2.2.2.2.1),AV.val (.int .i64 b.2.2.2.2.2.2.2.1),AV.val (.int .i64 b.2.2.2.2.2.2.2.2.1),AV.val (.int .i64 b.2.2.2.2.2.2.2.2.2.1),AV.val (.bool b.2.2.2.2.2.2.2.2.2.2)]]) 120)<|
 ZE ((0:Int)≤c)<|
 ZE ((c:Int)≤(List.length d:Int))<|
 (Zrk (List.drop (Int.toNat c) d)).bind fun v=>
 ZE (Jw (g++(E0++[[AV.val (.int .i64 e),AV.val (.int .i64 f),AV.val (.int .i64 b.1),AV.val (.int .i64 b.2.1),AV.val (.int .i64 b.2.2.1),AV.slice false 3 b.2.2.2.1,AV.val (.int .i64 b.2.2.2.2.1),AV.val (.int .i64 b.2.2.2.2.2.1),AV.val (.int .i64 b.2.2.2.2.2.2.1),AV.val (.int .i64 b.2.2.2.2.2.2.2.1),AV.val (.int .i64 b.2.2.2.2.2.2.2.2.1),AV.val (.int .i64 b.2.2.2.2.2.2.2.2.2.1),AV.val (.bool b.2.2.2.2.2.2.2.2.2.2)]])) v 120)<|
 some (((g++(E0++[[AV.val (.int .i64 e),AV.val (.int .i64 f),AV.val (.int .i64 b.1),AV.val (.int .i64 b.2.1),AV.val (.int .i64 b.2.2.1),AV.slice false 3 b.2.2.2.1,AV.val (.int .i64 b.2.2.2.2.1),AV.val (.int .i64 b.2.2.2.2.2.1),AV.val (.int .i64 b.2.2.2.2.2.2.1),AV.val (.int .i64 b.2.2.2.2.2.2.2.1),AV.val (.int .i64 b.2.2.2.2.2.2.2.2.1),AV.val (.int .i64 b.2.2.2.2.2.2.2.2.2.1),AV.val (.bool b.2.2.2.2.2.2.2.2.2.2)]]))++v),true)):=by kernel_rfl
theorem ZrY (a:LL) (b c d e f:Int) (g:LL) (h i j k l m:Int) (n:Bool):ZBe a b c d e f g h i j k l m n =
 ((ZyF a d e f).bind fun o=>
 if (cop .geq o 0) then
 some (E0,false)
 else
 (ZAW a b c).bind fun p=>
 if (cop .geq p 0) then
 some (E0,false)
 else
 Zeo Zr a b c d e f g h i j k l m n 0):=by kernel_rfl
noncomputable def F85:Fn:=⟨24,[8],[],[],0,[],[],Tryz.f85,[.c (.slice 13),.c (.int .i64),.c (.int .i64),.agg hs16],[.c (.slice 13)],[(161,Zwo.S)]⟩
theorem ZDV:F85.S.Ok Tryz.prog 85:=F85.ok Tryz.func85 (by kernel_rfl) ⟨ZCj,trivial⟩
noncomputable def g85 (a:LL) (c d e f h:Int) (j:LL) (k m n o p q:Int) (r:Bool):Option (LL):=F85.S.g [.l a,.i c,.i d,.i e,.i f,.i h,.l j,.i k,.i m,.i n,.i o,.i p,.i q,.b r]
theorem Zwr (a:LL) (b c d e f:Int) (g:LL) (h i j k l m:Int) (n:Bool):g85 a b c d e f g h i j k l m n =
 ((ZBe a b c d e f g h i j k l m n).bind fun o=>
 if (!o.2) then
 some (a)
 else
 some (o.1)):=by kernel_rfl
noncomputable def F86:Fn:=⟨11,[4],[],[],0,[],[],Tryz.f86,[.agg hs27,.c (.int .i64)],[.agg hs27],[]⟩
theorem ZEO:F86.S.Ok Tryz.prog 86:=F86.ok Tryz.func86 (by kernel_rfl) trivial
noncomputable def g86 (a c d e f h:Int) (j:Bool) (k:Int):Option (Qt34):=F86.S.g [.i a,.i c,.i d,.i e,.i f,.i h,.b j,.i k]
theorem ZxI (a b c d e f:Int) (g:Bool) (h:Int):g86 a b c d e f g h =
 (some (a,b,c,(iop .and .i64 d h),e,f,g)):=by kernel_rfl
noncomputable def F87:Fn:=⟨136,[14,15],[(16,[(1,.c (.int .i64)),(2,.c (.int .i64)),(3,.c (.int .i64)),(4,.c (.int .i64)),(5,.c (.int .i64)),(6,.c (.int .i64)),(7,.box hs27),(16,.c (.bool)),(17,.c (.int .i64)),(19,.c (.own false 31)),(20,.c (.int .i64))])],[],0,[],[],Tryz.f87,[.agg hs27,.c (.int .i64),.c (.int .i64),.c (.int .i64),.c (.int .i64),.c (.int .i64),.c (.int .i64)],[.c (.slice 7),.c (.int .i64)],[(130,ZtN.S),(162,Zwb.S),(163,ZvS.S)]⟩
theorem ZDU:F87.S.Ok Tryz.prog 87:=F87.ok Tryz.func87 (by kernel_rfl) ⟨Zqz,⟨Zxf,⟨Zx5,trivial⟩⟩⟩
noncomputable def g87 (a c d e f h:Int) (j:Bool) (k l m n o p:Int):Option (LL×Int):=F87.S.g [.i a,.i c,.i d,.i e,.i f,.i h,.b j,.i k,.i l,.i m,.i n,.i o,.i p]
noncomputable def V1 (k:Nat) (a c d e f g h j m n o p:Int) (q r:Bool) (s:Int) (t:LL) (u:Int):Option (LL×Int):=F87.lp [0,1,1,1,0,1,0,0,1,1,1,1,0,0,1,3,1,1,1,0,1,0] 0 r0 k [.i a,.i c,.i d,.i e,.i f,.i g,.i h,.i j,.i m,.i n,.i o,.i p,.b q,.b r,.i s,.l t,.i u]
theorem Zkd (k:Nat) (b c j l d m o e p f q r:Int) (g n:Bool) (h:Int) (i:LL) (a:Int):V1 (k+1) b c j l d m o e p f q r g n h i a =
 (if (cop .lss a m) then
 if n then
 ZE (Jw i (E0++[[AV.val (.int .i64 b),AV.val (.int .i64 (iop .add .i64 (iop .add .i64 e d) (iop .mul .i64 a h))),AV.val (.int .i64 c),AV.val (.int .i64 f),AV.val (.int .i64 l),AV.val (.int .i64 j),AV.val (.bool g)]]) 56)<|
 V1 k b c j l d m o e p f q r g n h (i++(E0++[[AV.val (.int .i64 b),AV.val (.int .i64 (iop .add .i64 (iop .add .i64 e d) (iop .mul .i64 a h))),AV.val (.int .i64 c),AV.val (.int .i64 f),AV.val (.int .i64 l),AV.val (.int .i64 j),AV.val (.bool g)]])) (iop .add .i64 a 1)
 else
 ZE (Jw i (E0++[[AV.val (.int .i64 b),AV.val (.int .i64 (iop .add .i64 (iop .add .i64 e d) (iop .mul .i64 a h))),AV.val (.int .i64 c),AV.val (.int .i64 f),AV.val (.int .i64 0),AV.val (.int .i64 0),AV.val (.bool g)]]) 56)<|
 V1 k b c j l d m o e p f q r g n h (i++(E0++[[AV.val (.int .i64 b),AV.val (.int .i64 (iop .add .i64 (iop .add .i64 e d) (iop .mul .i64 a h))),AV.val (.int .i64 c),AV.val (.int .i64 f),AV.val (.int .i64 0),AV.val (.int .i64 0),AV.val (.bool g)]])) (iop .add .i64 a 1)
 else
 some (i,0)):=by kernel_rfl
theorem Zw6 (g i b h j k:Int) (f:Bool) (c a l m d e:Int):g87 g i b h j k f c a l m d e =
 ((Zux g i b h j k f).bind fun n=>
 if (!n) then
 some (E0,5)
 else
 if (cop .neq g 1) then
 some (E0,5)
 else
 if (cop .eql (iop .and .i64 h 2) 0) then
 some (E0,8)
 else
 (ZyA c a).bind fun o=>
 if (!o) then
 some (E0,1)
 else
 if (cop .eql c 3) then
 (ZyC m l).bind fun p=>
 if (!p) then
 some (E0,1)
 else
 if (cop .lss e 1) then
 some (E0,1)
 else
 if (cop .gtr e 8) then
 some (E0,1)
 else
 if (cop .lss d 0) then
 some (E0,1)
 else
 if f then
 if (cop .neq c 1) then
 if (cop .neq c 2) then
 some (E0,5)
 else
 ZE ((0:Int)≤(IntKind.wrap .u64 a))<|
 ZE ((0:Int)≤(IntKind.wrap .u64 b))<|
 ZE (((iop .shl .i64 1 (IntKind.wrap .u64 a)):Int)≠0)<|
 if (cop .neq (iop .rem .i64 d (iop .shl .i64 1 (IntKind.wrap .u64 a))) 0) then
 some (E0,6)
 else
 if (cop .gtr d (iop .shl .i64 1 (IntKind.wrap .u64 b))) then
 some (E0,6)
 else
 if (cop .gtr (iop .mul .i64 e (iop .shl .i64 1 (IntKind.wrap .u64 a))) (iop .sub .i64 (iop .shl .i64 1 (IntKind.wrap .u64 b)) d)) then
 some (E0,6)
 else
 if (cop .eql c 1) then
 if (cop .geq a b) then
 some (E0,6)
 else
 V1 Zr c a l m d e g i b h j k f (cop .eql c 3) (iop .shl .i64 1 (IntKind.wrap .u64 a)) E0 0
 else
 V1 Zr c a l m d e g i b h j k f (cop .eql c 3) (iop .shl .i64 1 (IntKind.wrap .u64 a)) E0 0
 else
 ZE ((0:Int)≤(IntKind.wrap .u64 a))<|
 ZE ((0:Int)≤(IntKind.wrap .u64 b))<|
 ZE (((iop .shl .i64 1 (IntKind.wrap .u64 a)):Int)≠0)<|
 if (cop .neq (iop .rem .i64 d (iop .shl .i64 1 (IntKind.wrap .u64 a))) 0) then
 some (E0,6)
 else
 if (cop .gtr d (iop .shl .i64 1 (IntKind.wrap .u64 b))) then
 some (E0,6)
 else
 if (cop .gtr (iop .mul .i64 e (iop .shl .i64 1 (IntKind.wrap .u64 a))) (iop .sub .i64 (iop .shl .i64 1 (IntKind.wrap .u64 b)) d)) then
 some (E0,6)
 else
 if (cop .eql c 1) then
 if (cop .geq a b) then
 some (E0,6)
 else
 V1 Zr c a l m d e g i b h j k f (cop .eql c 3) (iop .shl .i64 1 (IntKind.wrap .u64 a)) E0 0
 else
 V1 Zr c a l m d e g i b h j k f (cop .eql c 3) (iop .shl .i64 1 (IntKind.wrap .u64 a)) E0 0
 else
 ZE ((0:Int)≤(IntKind.wrap .u64 a))<|
 ZE ((0:Int)≤(IntKind.wrap .u64 b))<|
 ZE (((iop .shl .i64 1 (IntKind.wrap .u64 a)):Int)≠0)<|
 if (cop .neq (iop .rem .i64 d (iop .shl .i64 1 (IntKind.wrap .u64 a))) 0) then
 some (E0,6)
 else
 if (cop .gtr d (iop .shl .i64 1 (IntKind.wrap .u64 b))) then
 some (E0,6)
 else
 if (cop .gtr (iop .mul .i64 e (iop .shl .i64 1 (IntKind.wrap .u64 a))) (iop .sub .i64 (iop .shl .i64 1 (IntKind.wrap .u64 b)) d)) then
 some (E0,6)
 else
 if (cop .eql c 1) then
 if (cop .geq a b) then
 some (E0,6)
 else
 V1 Zr c a l m d e g i b h j k f (cop .eql c 3) (iop .shl .i64 1 (IntKind.wrap .u64 a)) E0 0
 else
 V1 Zr c a l m d e g i b h j k f (cop .eql c 3) (iop .shl .i64 1 (IntKind.wrap .u64 a)) E0 0
 else
 if (cop .lss e 1) then
 some (E0,1)
 else
 if (cop .gtr e 8) then
 some (E0,1)
 else
 if (cop .lss d 0) then
 some (E0,1)
 else
 if f then
 if (cop .neq c 1) then
 if (cop .neq c 2) then
 some (E0,5)
 else
 ZE ((0:Int)≤(IntKind.wrap .u64 a))<|
 ZE ((0:Int)≤(IntKind.wrap .u64 b))<|
 ZE (((iop .shl .i64 1 (IntKind.wrap .u64 a)):Int)≠0)<|
 if (cop .neq (iop .rem .i64 d (iop .shl .i64 1 (IntKind.wrap .u64 a))) 0) then
 some (E0,6)
 else
 if (cop .gtr d (iop .shl .i64 1 (IntKind.wrap .u64 b))) then
 some (E0,6)
 else
 if (cop .gtr (iop .mul .i64 e (iop .shl .i64 1 (IntKind.wrap .u64 a))) (iop .sub .i64 (iop .shl .i64 1 (IntKind.wrap .u64 b)) d)) then
 some (E0,6)
 else
 if (cop .eql c 1) then
 if (cop .geq a b) then
 some (E0,6)
 else
 V1 Zr c a l m d e g i b h j k f (cop .eql c 3) (iop .shl .i64 1 (IntKind.wrap .u64 a)) E0 0
 else
 V1 Zr c a l m d e g i b h j k f (cop .eql c 3) (iop .shl .i64 1 (IntKind.wrap .u64 a)) E0 0
 else
 ZE ((0:Int)≤(IntKind.wrap .u64 a))<|
 ZE ((0:Int)≤(IntKind.wrap .u64 b))<|
 ZE (((iop .shl .i64 1 (IntKind.wrap .u64 a)):Int)≠0)<|
 if (cop .neq (iop .rem .i64 d (iop .shl .i64 1 (IntKind.wrap .u64 a))) 0) then
 some (E0,6)
 else
 if (cop .gtr d (iop .shl .i64 1 (IntKind.wrap .u64 b))) then
 some (E0,6)
 else
 if (cop .gtr (iop .mul .i64 e (iop .shl .i64 1 (IntKind.wrap .u64 a))) (iop .sub .i64 (iop .shl .i64 1 (IntKind.wrap .u64 b)) d)) then
 some (E0,6)
 else
 if (cop .eql c 1) then
 if (cop .geq a b) then
 some (E0,6)
 else
 V1 Zr c a l m d e g i b h j k f (cop .eql c 3) (iop .shl .i64 1 (IntKind.wrap .u64 a)) E0 0
 else
 V1 Zr c a l m d e g i b h j k f (cop .eql c 3) (iop .shl .i64 1 (IntKind.wrap .u64 a)) E0 0
 else
 ZE ((0:Int)≤(IntKind.wrap .u64 a))<|
 ZE ((0:Int)≤(IntKind.wrap .u64 b))<|
 ZE (((iop .shl .i64 1 (IntKind.wrap .u64 a)):Int)≠0)<|
 if (cop .neq (iop .rem .i64 d (iop .shl .i64 1 (IntKind.wrap .u64 a))) 0) then
 some (E0,6)
 else
 if (cop .gtr d (iop .shl .i64 1 (IntKind.wrap .u64 b))) then
 some (E0,6)
 else
 if (cop .gtr (iop .mul .i64 e (iop .shl .i64 1 (IntKind.wrap .u64 a))) (iop .sub .i64 (iop .shl .i64 1 (IntKind.wrap .u64 b)) d)) then
 some (E0,6)
 else
 if (cop .eql c 1) then
 if (cop .geq a b) then
 some (E0,6)
 else
 V1 Zr c a l m d e g i b h j k f (cop .eql c 3) (iop .shl .i64 1 (IntKind.wrap .u64 a)) E0 0
 else
 V1 Zr c a l m d e g i b h j k f (cop .eql c 3) (iop .shl .i64 1 (IntKind.wrap .u64 a)) E0 0):=by kernel_rfl
noncomputable def F88:Fn:=⟨49,[6,7],[],[],0,[],[],Tryz.f88,[.agg hs16,.agg [.int .i64,.int .i64,.int .i64],.agg hs27],[.agg hs16,.c (.int .i64)],[(61,F61.S),(128,Zrv.S),(130,ZtN.S),(78,F78.S),(76,F76.S)]⟩
theorem ZEN:F88.S.Ok Tryz.prog 88:=F88.ok Tryz.func88 (by kernel_rfl) ⟨ZuM,⟨ZmD,⟨Zqz,⟨ZAY,⟨ZDl,trivial⟩⟩⟩⟩⟩
noncomputable def g88 (a c d:Int) (e:LL) (f h j k m n:Int) (o:Bool) (p q r s t u v w x:Int) (y:Bool):Option (Qt28):=F88.S.g [.i a,.i c,.i d,.l e,.i f,.i h,.i j,.i k,.i m,.i n,.b o,.i p,.i q,.i r,.i s,.i t,.i u,.i v,.i w,.i x,.b y]
theorem Zvr (a b c:Int) (d:LL) (o p q r s t:Int) (u:Bool) (e f g h i j k l m:Int) (n:Bool):g88 a b c d o p q r s t u e f g h i j k l m n =
 ((g61 a b c d o p q r s t u).bind fun w=>
 if (!w) then
 some (0,0,0,E0,0,0,0,0,0,0,false,1)
 else
 (Zq6 e f g).bind fun x=>
 if (!x) then
 some (0,0,0,E0,0,0,0,0,0,0,false,1)
 else
 (Zux h i j k l m n).bind fun y=>
 if (!y) then
 some (0,0,0,E0,0,0,0,0,0,0,false,1)
 else
 if ((cop .eql e a)&&((cop .eql f b)&&((cop .eql g c)&&true))) then
 some (0,0,0,E0,0,0,0,0,0,0,false,1)
 else
 (g78 d e f g).bind fun z=>
 if z then
 some (0,0,0,E0,0,0,0,0,0,0,false,1)
 else
 if (cop .eql (List.length d:Int) 8) then
 some (0,0,0,E0,0,0,0,0,0,0,false,9)
 else
 (g76 d).bind fun v=>
 ZE (Jw v (E0++[[AV.val (.int .i64 a),AV.val (.int .i64 b),AV.val (.int .i64 c)]]) 24)<|
 some (e,f,g,(v++(E0++[[AV.val (.int .i64 a),AV.val (.int .i64 b),AV.val (.int .i64 c)]])),h,i,j,k,l,m,n,0)):=by kernel_rfl
noncomputable def F31:Fn:=⟨146,[6],[(18,[(0,.c (.slice 13)),(2,.c (.int .i64)),(7,.c (.int .i64)),(8,.c (.int .i64)),(10,.box hs16),(11,.c (.slice 7)),(16,.c (.int .i64))])],[],0,[],[],Tryz.f31,[.c (.slice 13),.agg hs18,.c (.int .i64)],[.c (.slice 13)],[(13,F13.S),(83,F83.S),(84,F84.S),(85,F85.S),(86,F86.S),(87,F87.S),(88,F88.S)]⟩
theorem ZDB:F31.S.Ok Tryz.prog 31:=F31.ok Tryz.func31 (by kernel_rfl) ⟨ZnE,⟨ZE2,⟨ZEB,⟨ZDV,⟨ZEO,⟨ZDU,⟨ZEN,trivial⟩⟩⟩⟩⟩⟩⟩
noncomputable def g31 (a:LL) (c:Bool) (d e f h j k m n:Int) (o:Bool) (p:Int):Option (LL):=F31.S.g [.l a,.b c,.i d,.i e,.i f,.i h,.i j,.i k,.i m,.i n,.b o,.i p]
noncomputable def ZgL (k:Nat) (a:LL) (c d e f g h:Int) (j:LL) (m n o p q r:Int) (s:Bool) (t:LL) (u:Int):Option (LL):=F31.lp [2,1,1,5,8,1,0,1,0] 0 r0 k [.l a,.i c,.i d,.i e,.i f,.i g,.i h,.l j,.i m,.i n,.i o,.i p,.i q,.i r,.b s,.l t,.i u]
theorem Zli (k:Nat) (d:LL) (g e h i j l:Int) (m:LL) (n o p q r s:Int) (t:Bool) (f:LL) (c:Int):ZgL (k+1) d g e h i j l m n o p q r s t f c =
 (if (cop .lss c (List.length f:Int)) then
 Zm f c hs27 fun (b:Qt34)=>
 (g88 i j l m n o p q r s t e g c b.1 b.2.1 b.2.2.1 b.2.2.2.1 b.2.2.2.2.1 b.2.2.2.2.2.1 b.2.2.2.2.2.2).bind fun a=>
 if (cop .neq a.2.2.2.2.2.2.2.2.2.2.2 0) then
 some (d)
 else
 (g85 d e (iop .add .i64 h c) a.1 a.2.1 a.2.2.1 a.2.2.2.1 a.2.2.2.2.1 a.2.2.2.2.2.1 a.2.2.2.2.2.2.1 a.2.2.2.2.2.2.2.1 a.2.2.2.2.2.2.2.2.1 a.2.2.2.2.2.2.2.2.2.1 a.2.2.2.2.2.2.2.2.2.2.1).bind fun u=>
 ZgL k u g e h i j l m n o p q r s t f (iop .add .i64 c 1)
 else
 some (d)):=by kernel_rfl
theorem Zv8 (c:LL) (o:Bool) (p q r s g h t j:Int) (u:Bool) (f:Int):g31 c o p q r s g h t j u f =
 ((g13 q 4).bind fun e=>
 (g13 r 8).bind fun i=>
 if o then
 (g83 g h).bind fun b=>
 (g84 c 0 0 0 (E0++[[AV.val (.int .i64 b.1),AV.val (.int .i64 b.2.1),AV.val (.int .i64 b.2.2.1),AV.val (.int .i64 b.2.2.2.1),AV.val (.int .i64 b.2.2.2.2.1),AV.val (.int .i64 b.2.2.2.2.2.1),AV.val (.bool b.2.2.2.2.2.2)]])).bind fun k=>
 if k then
 some (c)
 else
 (g85 c e i e f 0 E0 b.1 b.2.1 b.2.2.1 b.2.2.2.1 b.2.2.2.2.1 b.2.2.2.2.2.1 b.2.2.2.2.2.2).bind fun l=>
 some (l)
 else
 if (cop .eql (List.length c:Int) 0) then
 (g83 g h).bind fun b=>
 (g84 c 0 0 0 (E0++[[AV.val (.int .i64 b.1),AV.val (.int .i64 b.2.1),AV.val (.int .i64 b.2.2.1),AV.val (.int .i64 b.2.2.2.1),AV.val (.int .i64 b.2.2.2.2.1),AV.val (.int .i64 b.2.2.2.2.2.1),AV.val (.bool b.2.2.2.2.2.2)]])).bind fun k=>
 if k then
 some (c)
 else
 (g85 c e i e f 0 E0 b.1 b.2.1 b.2.2.1 b.2.2.2.1 b.2.2.2.2.1 b.2.2.2.2.2.1 b.2.2.2.2.2.2).bind fun l=>
 some (l)
 else
 (g13 p (List.length c:Int)).bind fun b=>
 Zm c b hs12 fun (a:Qt25)=>
 (g13 j 8).bind fun w=>
 (g86 a.2.2.2.2.2.2.1 a.2.2.2.2.2.2.2.1 a.2.2.2.2.2.2.2.2.1 a.2.2.2.2.2.2.2.2.2.1 a.2.2.2.2.2.2.2.2.2.2.1 a.2.2.2.2.2.2.2.2.2.2.2.1 (d4 (d8 a)) w).bind fun d=>
 if (!u) then
 (g13 s 6).bind fun v=>
 (g13 h 10).bind fun x=>
 Zm ((((((E0++[[AV.val (.int .i64 (iop .add .i64 6 x))]])++[[AV.val (.int .i64 12)]])++[[AV.val (.int .i64 12)]])++[[AV.val (.int .i64 6)]])++[[AV.val (.int .i64 10)]])++[[AV.val (.int .i64 16)]]) (iop .sub .i64 (iop .add .i64 1 v) 1) [.int .i64] fun (m:Int)=>
 (g13 j 2).bind fun y=>
 (g13 g 8).bind fun z=>
 ZE ((0:Int)≤(IntKind.wrap .u64 m))<|
 (g13 t 3).bind fun A=>
 (g87 a.2.2.2.2.2.2.1 a.2.2.2.2.2.2.2.1 a.2.2.2.2.2.2.2.2.1 a.2.2.2.2.2.2.2.2.2.1 a.2.2.2.2.2.2.2.2.2.2.1 a.2.2.2.2.2.2.2.2.2.2.2.1 (d4 (d8 a)) (iop .add .i64 1 v) m y 32 (iop .shl .i64 z (IntKind.wrap .u64 m)) (iop .add .i64 1 A)).bind fun n=>
 if (cop .neq n.2 0) then
 some (c)
 else
 (g84 c a.2.2.1 a.2.2.2.1 a.2.2.2.2.1 n.1).bind fun C=>
 if C then
 some (c)
 else
 ZgL Zr c f e i a.2.2.1 a.2.2.2.1 a.2.2.2.2.1 a.2.2.2.2.2.1 a.2.2.2.2.2.2.1 a.2.2.2.2.2.2.2.1 a.2.2.2.2.2.2.2.2.1 a.2.2.2.2.2.2.2.2.2.1 a.2.2.2.2.2.2.2.2.2.2.1 a.2.2.2.2.2.2.2.2.2.2.2.1 (d4 (d8 a)) n.1 0
 else
 ZgL Zr c f e i a.2.2.1 a.2.2.2.1 a.2.2.2.2.1 a.2.2.2.2.2.1 a.2.2.2.2.2.2.1 a.2.2.2.2.2.2.2.1 a.2.2.2.2.2.2.2.2.1 a.2.2.2.2.2.2.2.2.2.1 a.2.2.2.2.2.2.2.2.2.2.1 a.2.2.2.2.2.2.2.2.2.2.2.1 (d4 (d8 a)) (E0++[[AV.val (.int .i64 d.1),AV.val (.int .i64 d.2.1),AV.val (.int .i64 d.2.2.1),AV.val (.int .i64 d.2.2.2.1),AV.val (.int .i64 d.2.2.2.2.1),AV.val (.int .i64 d.2.2.2.2.2.1),AV.val (.bool d.2.2.2.2.2.2)]]) 0):=by kernel_rfl
noncomputable def F11:Fn:=⟨29,[2],[(3,[(0,.c (.slice 10)),(3,.c (.slice 13)),(4,.c (.int .i64))])],[],0,[],[],Tryz.f11,[.c (.slice 10)],[.c (.slice 13)],[(31,F31.S)]⟩
theorem ZFn:F11.S.Ok Tryz.prog 11:=F11.ok Tryz.func11 (by kernel_rfl) ⟨ZDB,trivial⟩
noncomputable def g11 (a:LL):Option (LL):=F11.S.g [.l a]
noncomputable def ZpJ (k:Nat) (a b:LL) (c:Int):Option (LL):=F11.lp [0] 0 r0 k [.l a,.l b,.i c]
theorem Zj7 (k:Nat) (d b:LL) (c:Int):ZpJ (k+1) d b c =
 (if (cop .lss c (List.length d:Int)) then
 if (cop .lss c 40) then
 if (cop .lss (List.length b:Int) 24) then
 Zm d c hs18 fun (a:Bool×Int×Int×Int×Int×Int×Int×Int×Int×Bool)=>
 (g31 b a.1 a.2.1 a.2.2.1 a.2.2.2.1 a.2.2.2.2.1 a.2.2.2.2.2.1 a.2.2.2.2.2.2.1 a.2.2.2.2.2.2.2.1 a.2.2.2.2.2.2.2.2.1 a.2.2.2.2.2.2.2.2.2 (iop .add .i64 c 1)).bind fun e=>
 ZpJ k d e (iop .add .i64 c 1)
 else
 some (b)
 else
 some (b)
 else
 some (b)):=by kernel_rfl
theorem Zwj (a:LL):g11 a =
 (ZpJ Zr a E0 0):=by kernel_rfl
noncomputable def F21:Fn:=⟨17,[4],[],[],0,[],[],Tryz.f21,[.c (.slice 1),.c (.int .i64)],[.c (.int .i64)],[]⟩
theorem Zvp:F21.S.Ok Tryz.prog 21:=F21.ok Tryz.func21 (by kernel_rfl) trivial
noncomputable def g21 (a:LL) (b:Int):Option (Int):=F21.S.g [.l a,.i b]
theorem Zrj (b:LL) (a:Int):g21 b a =
 (if (cop .lss a 0) then
 some (0)
 else
 if (cop .geq a (List.length b:Int)) then
 some (0)
 else
 Zm b a [.int .i64] fun (c:Int)=>
 some (c)):=by kernel_rfl
noncomputable def F22:Fn:=⟨10,[2],[],[],0,[],[],Tryz.f22,[.c (.int .i64)],[.agg [.int .i64,.int .i64,.int .i64]],[(13,F13.S)]⟩
theorem ZAc:F22.S.Ok Tryz.prog 22:=F22.ok Tryz.func22 (by kernel_rfl) ⟨ZnE,trivial⟩
noncomputable def g22 (a:Int):Option (Int×Int×Int):=F22.S.g [.i a]
theorem ZuP (a:Int):g22 a =
 ((g13 a 4).bind fun b=>
 ZE ((4:Int)≠0)<|
 (g13 (iop .quo .i64 a 4) 20).bind fun c=>
 some (b,(iop .add .i64 1 c),0)):=by kernel_rfl
noncomputable def F24:Fn:=⟨12,[4],[],[],0,[],[],Tryz.f24,[.c (.slice 1),.c (.int .i64)],[.c (.slice 1)],[]⟩
theorem ZAG:F24.S.Ok Tryz.prog 24:=F24.ok Tryz.func24 (by kernel_rfl) trivial
noncomputable def g24 (a:LL) (b:Int):Option (LL):=F24.S.g [.l a,.i b]
theorem Zvg (b:LL) (a:Int):g24 b a =
 (if (cop .geq a (List.length b:Int)) then
 some (E0)
 else
 ZE ((0:Int)≤a)<|
 ZE ((a:Int)≤(List.length b:Int))<|
 some ((List.drop (Int.toNat a) b))):=by kernel_rfl
noncomputable def F23:Fn:=⟨69,[4],[],[],0,[],[],Tryz.f23,[.c (.slice 1),.agg hs16],[.agg hs6],[(21,F21.S),(22,F22.S),(13,F13.S),(25,F25.S)]⟩
theorem ZDp:F23.S.Ok Tryz.prog 23:=F23.ok Tryz.func23 (by kernel_rfl) ⟨Zvp,⟨ZAc,⟨ZnE,⟨Zv3,trivial⟩⟩⟩⟩
noncomputable def g23 (a:LL) (c d e:Int) (f:LL) (h j k m n o:Int) (p:Bool):Option (Qt10):=F23.S.g [.l a,.i c,.i d,.i e,.l f,.i h,.i j,.i k,.i m,.i n,.i o,.b p]
theorem ZuZ (a:LL) (e f g:Int) (h:LL) (i j k l m n:Int) (o:Bool):g23 a e f g h i j k l m n o =
 ((g21 a 0).bind fun D=>
 (g22 D).bind fun c=>
 (g21 a 1).bind fun E=>
 (g13 E 3).bind fun p=>
 (g21 a 2).bind fun G=>
 (g13 G 2).bind fun H=>
 Zm ((E0++[[AV.val (.int .i64 32)]])++[[AV.val (.int .i64 39)]]) H [.int .i64] fun (q:Int)=>
 (g25 e f g h i j k l m n o).bind fun b=>
 (g21 a 3).bind fun J=>
 (g13 J 6).bind fun d=>
 (g21 a 4).bind fun K=>
 (g13 K 8).bind fun r=>
 (g21 a 5).bind fun L=>
 (g13 L 8).bind fun s=>
 (g21 a 6).bind fun M=>
 (g13 M 4).bind fun t=>
 (g21 a 7).bind fun N=>
 (g13 N 8).bind fun u=>
 (g21 a 8).bind fun O=>
 (g13 O 6).bind fun v=>
 (g21 a 9).bind fun P=>
 (g13 P 3).bind fun w=>
 (g21 a 10).bind fun Q=>
 (g13 Q 2).bind fun x=>
 (g21 a 11).bind fun R=>
 (g13 R 8).bind fun y=>
 ZE ((0:Int)≤12)<|
 (g21 a 12).bind fun T=>
 (g13 T 3).bind fun z=>
 (g21 a 13).bind fun A=>
 (g21 a 14).bind fun C=>
 if (cop .eql (iop .add .i64 1 d) 1) then
 some (c.1,c.2.1,c.2.2,(iop .add .i64 1 d),r,s,t,u,(iop .add .i64 1 v),(iop .add .i64 12 w),x,(iop .shl .i64 y 12),(iop .add .i64 1 z),A,C,p,q,0,0,0,E0,0,0,0,0,0,0,false)
 else
 some (c.1,c.2.1,c.2.2,(iop .add .i64 1 d),r,s,t,u,(iop .add .i64 1 v),(iop .add .i64 12 w),x,(iop .shl .i64 y 12),(iop .add .i64 1 z),A,C,p,q,b.1,b.2.1,b.2.2.1,b.2.2.2.1,b.2.2.2.2.1,b.2.2.2.2.2.1,b.2.2.2.2.2.2.1,b.2.2.2.2.2.2.2.1,b.2.2.2.2.2.2.2.2.1,b.2.2.2.2.2.2.2.2.2.1,b.2.2.2.2.2.2.2.2.2.2)):=by kernel_rfl
noncomputable def F77:Fn:=⟨15,[6],[],[],0,[],[],Tryz.f77,[.c (.int .i64),.c (.int .i64),.c (.int .i64)],[.agg [.int .i64,.int .i64,.int .i64]],[(13,F13.S)]⟩
theorem ZEJ:F77.S.Ok Tryz.prog 77:=F77.ok Tryz.func77 (by kernel_rfl) ⟨ZnE,trivial⟩
noncomputable def g77 (a b c:Int):Option (Int×Int×Int):=F77.S.g [.i a,.i b,.i c]
theorem Zw2 (a b c:Int):g77 a b c =
 ((g13 a 4).bind fun d=>
 (g13 b 12).bind fun e=>
 (g13 c 3).bind fun f=>
 some (d,(iop .add .i64 1 e),f)):=by kernel_rfl
noncomputable def F26:Fn:=⟨41,[2],[(3,[(0,.c (.slice 1)),(3,.c (.own false 25)),(4,.c (.int .i64))])],[],0,[],[],Tryz.f26,[.c (.slice 1)],[.c (.own false 25)],[(77,F77.S),(78,F78.S)]⟩
theorem ZES:F26.S.Ok Tryz.prog 26:=F26.ok Tryz.func26 (by kernel_rfl) ⟨ZEJ,⟨ZAY,trivial⟩⟩
noncomputable def g26 (a:LL):Option (LL):=F26.S.g [.l a]
noncomputable def Zju (k:Nat) (a b:LL) (c:Int):Option (LL):=F26.lp [0] 0 r0 k [.l a,.l b,.i c]
theorem ZkO (k:Nat) (c b:LL) (d:Int):Zju (k+1) c b d =
 (if (cop .lss d (List.length c:Int)) then
 if (cop .lss (List.length b:Int) 8) then
 Zm c d [.int .i64] fun (e:Int)=>
 Zm c d [.int .i64] fun (f:Int)=>
 ZE ((4:Int)≠0)<|
 Zm c d [.int .i64] fun (g:Int)=>
 ZE ((48:Int)≠0)<|
 (g77 e (iop .quo .i64 f 4) (iop .quo .i64 g 48)).bind fun a=>
 (g78 b a.1 a.2.1 a.2.2).bind fun h=>
 if (!h) then
 ZE (Jw b (E0++[[AV.val (.int .i64 a.1),AV.val (.int .i64 a.2.1),AV.val (.int .i64 a.2.2)]]) 24)<|
 Zju k c (b++(E0++[[AV.val (.int .i64 a.1),AV.val (.int .i64 a.2.1),AV.val (.int .i64 a.2.2)]])) (iop .add .i64 d 1)
 else
 Zju k c b (iop .add .i64 d 1)
 else
 some (b)
 else
 some (b)):=by kernel_rfl
theorem Zxk (a:LL):g26 a =
 (Zju Zr a E0 0):=by kernel_rfl
noncomputable def F27:Fn:=⟨20,[2],[(3,[(0,.c (.int .i64)),(3,.c (.own false 3)),(4,.c (.int .i64))])],[],0,[],[],Tryz.f27,[.c (.int .i64)],[.c (.own false 3)],[(13,F13.S)]⟩
theorem ZFj:F27.S.Ok Tryz.prog 27:=F27.ok Tryz.func27 (by kernel_rfl) ⟨ZnE,trivial⟩
noncomputable def g27 (a:Int):Option (LL):=F27.S.g [.i a]
noncomputable def Zl6 (k:Nat) (a:Int) (b:LL) (c:Int):Option (LL):=F27.lp [0] 0 r0 k [.i a,.l b,.i c]
theorem Zpb (k:Nat) (c:Int) (b:LL) (a:Int):Zl6 (k+1) c b a =
 (if (cop .lss a 4) then
 ZE ((0:Int)≤(IntKind.wrap .u64 a))<|
 (g13 (iop .shr .i64 c (IntKind.wrap .u64 a)) 2).bind fun d=>
 if (cop .eql d 1) then
 ZE (Jw b (E0++[[AV.val (.int .i64 a)]]) 8)<|
 Zl6 k c (b++(E0++[[AV.val (.int .i64 a)]])) (iop .add .i64 a 1)
 else
 Zl6 k c b (iop .add .i64 a 1)
 else
 some (b)):=by kernel_rfl
theorem ZuO (a:Int):g27 a =
 (Zl6 Zr a E0 0):=by kernel_rfl
noncomputable def F29:Fn:=⟨58,[2],[(3,[(0,.c (.slice 1)),(2,.box [.int .i64,.slice 1,.slice 1]),(3,.box [.int .i64,.slice 1,.slice 1]),(4,.c (.int .i64))]),(10,[(0,.c (.slice 1)),(2,.box [.int .i64,.slice 1,.slice 1]),(3,.box [.int .i64,.slice 1,.slice 1]),(7,.c (.int .i64))])],[],0,[],[],Tryz.f29,[.c (.slice 1)],[.agg [.int .i64,.slice 1,.slice 1]],[(21,F21.S),(13,F13.S),(79,F79.S)]⟩
theorem ZC2:F29.S.Ok Tryz.prog 29:=F29.ok Tryz.func29 (by kernel_rfl) ⟨Zvp,⟨ZnE,⟨ZC0,trivial⟩⟩⟩
noncomputable def g29 (a:LL):Option (Int×LL×LL):=F29.S.g [.l a]
noncomputable def Zmf (k:Nat) (a:LL) (b:Int) (c d:LL) (e:Int) (f g:LL) (h:Int):Option (Int×LL×LL):=F29.lp [5,1,0] 0 r0 k [.l a,.i b,.l c,.l d,.i e,.l f,.l g,.i h]
theorem ZqH (k:Nat) (b:LL) (f:Int) (g h:LL) (d:Int) (e a:LL) (c:Int):Zmf (k+1) b f g h d e a c =
 ((g21 b 6).bind fun j=>
 (g13 j 3).bind fun l=>
 if (cop .lss c l) then
 ZE (Jw E0 a 8)<|
 (g21 b (iop .add .i64 7 c)).bind fun m=>
 (g13 m 4).bind fun i=>
 ZE (Jw a (E0++[[AV.val (.int .i64 i)]]) 8)<|
 Zmf k b f g h d e (a++(E0++[[AV.val (.int .i64 i)]])) (iop .add .i64 c 1)
 else
 some (d,e,a)):=by kernel_rfl
noncomputable def ZlE (k:Nat) (a:LL) (b:Int) (c d:LL) (e:Int) (f g:LL) (h:Int):Option (Int×LL×LL):=F29.lp [3] 0 r0 k [.l a,.i b,.l c,.l d,.i e,.l f,.l g,.i h]
theorem ZpU (k:Nat) (b:LL) (d:Int) (e f:LL) (g:Int) (a h:LL) (c:Int):ZlE (k+1) b d e f g a h c =
 ((g21 b 1).bind fun j=>
 (g13 j 4).bind fun l=>
 if (cop .lss c l) then
 (g21 b (iop .add .i64 2 c)).bind fun m=>
 (g13 m 4).bind fun i=>
 (g79 a i).bind fun n=>
 if (!n) then
 ZE (Jw E0 a 8)<|
 ZE (Jw a (E0++[[AV.val (.int .i64 i)]]) 8)<|
 ZlE k b d e f g (a++(E0++[[AV.val (.int .i64 i)]])) h (iop .add .i64 c 1)
 else
 ZlE k b d e f g a h (iop .add .i64 c 1)
 else
 Zmf Zr b d e f g a h 0):=by kernel_rfl
theorem Zv9 (a:LL):g29 a =
 ((g21 a 0).bind fun b=>
 (g13 b 200).bind fun c=>
 ZlE Zr a 0 E0 E0 c E0 E0 0):=by kernel_rfl
noncomputable def F80:Fn:=⟨44,[4],[(3,[(0,.c (.slice 13)),(1,.c (.int .i64)),(5,.c (.own true 135)),(6,.c (.int .i64))])],[],0,[4],[],Tryz.f80,[.c (.slice 13),.c (.int .i64)],[.c (.own true 135)],[(25,F25.S)]⟩
theorem ZDH:F80.S.Ok Tryz.prog 80:=F80.ok Tryz.func80 (by kernel_rfl) ⟨Zv3,trivial⟩
noncomputable def g80 (a:LL) (b:Int):Option (LL):=F80.S.g [.l a,.i b]
noncomputable def Zf9 (k:Nat) (a:LL) (b:Int) (c:LL) (d:Int):Option (LL):=F80.lp [4] 0 r0 k [.l a,.i b,.l c,.i d]
theorem Zky (k:Nat) (c:LL) (f:Int) (e:LL) (d:Int):Zf9 (k+1) c f e d =
 (if (cop .lss d (List.length c:Int)) then
 Zm c d hs12 fun (h:Qt25)=>
 if (cop .eql h.1 f) then
 Zm c d hs12 fun (i:Qt25)=>
 if (cop .lss i.2.1 12) then
 Zm c d hs12 fun (g:Qt25)=>
 Zm c d hs12 fun (a:Qt25)=>
 (g25 a.2.2.1 a.2.2.2.1 a.2.2.2.2.1 a.2.2.2.2.2.1 a.2.2.2.2.2.2.1 a.2.2.2.2.2.2.2.1 a.2.2.2.2.2.2.2.2.1 a.2.2.2.2.2.2.2.2.2.1 a.2.2.2.2.2.2.2.2.2.2.1 a.2.2.2.2.2.2.2.2.2.2.2.1 (d4 (d8 a))).bind fun b=>
 ZE ((0:Int)≤g.2.1)<|
 ZE ((g.2.1:Int) < (List.length e:Int))<|
 ZE ((0:Int)≤g.2.1)<|
 ZE ((g.2.1:Int) < (List.length e:Int))<|
 Zf9 k c f (Jc e (Int.toNat g.2.1) 0 [AV.val (.int .i64 b.1),AV.val (.int .i64 b.2.1),AV.val (.int .i64 b.2.2.1),AV.slice false 3 b.2.2.2.1,AV.val (.int .i64 b.2.2.2.2.1),AV.val (.int .i64 b.2.2.2.2.2.1),AV.val (.int .i64 b.2.2.2.2.2.2.1),AV.val (.int .i64 b.2.2.2.2.2.2.2.1),AV.val (.int .i64 b.2.2.2.2.2.2.2.2.1),AV.val (.int .i64 b.2.2.2.2.2.2.2.2.2.1),AV.val (.bool b.2.2.2.2.2.2.2.2.2.2)]) (iop .add .i64 d 1)
 else
 Zf9 k c f e (iop .add .i64 d 1)
 else
 Zf9 k c f e (iop .add .i64 d 1)
 else
 some (e)):=by kernel_rfl
theorem Zxx (a:LL) (b:Int):g80 a b =
 (ZE (Zun 12 136)<|
 ZE ((12:Int)≤12)<|
 ZE ((12:Int)≤12)<|
 Zf9 Zr a b (List.replicate (Int.toNat 12) [AV.val (.int .i64 0),AV.val (.int .i64 0),AV.val (.int .i64 0),AV.slice false 3 E0,AV.val (.int .i64 0),AV.val (.int .i64 0),AV.val (.int .i64 0),AV.val (.int .i64 0),AV.val (.int .i64 0),AV.val (.int .i64 0),AV.val (.bool false),AV.val (.int .i64 0),AV.val (.int .i64 0),AV.val (.int .i64 0),AV.val (.int .i64 0)]) 0):=by kernel_rfl
noncomputable def F30:Fn:=⟨203,[6],[(3,[(0,.c (.slice 1)),(1,.c (.slice 13)),(6,.box hs30),(7,.box hs29),(8,.c (.int .i64))]),(10,[(0,.c (.slice 1)),(1,.c (.slice 13)),(6,.box hs30),(7,.box hs29),(9,.c (.int .i64))]),(17,[(0,.c (.slice 1)),(1,.c (.slice 13)),(6,.box hs30),(7,.box hs29),(12,.c (.int .i64))]),(22,[(0,.c (.slice 1)),(1,.c (.slice 13)),(6,.box hs30),(7,.box hs29),(14,.c (.int .i64))]),(27,[(0,.c (.slice 1)),(1,.c (.slice 13)),(6,.box hs30),(7,.box hs29),(16,.c (.int .i64))])],[],0,[],[(33,[(7,1)])],Tryz.f30,[.c (.slice 1),.c (.slice 13),.c (.int .i64)],[.agg hs30],[(80,F80.S),(21,F21.S),(13,F13.S),(81,F81.S),(22,F22.S),(24,F24.S),(23,F23.S),(82,F82.S)]⟩
theorem ZDt:F30.S.Ok Tryz.prog 30:=F30.ok Tryz.func30 (by kernel_rfl) ⟨ZDH,⟨Zvp,⟨ZnE,⟨ZBZ,⟨ZAc,⟨ZAG,⟨ZDp,⟨ZzG,trivial⟩⟩⟩⟩⟩⟩⟩⟩
noncomputable def g30 (a b:LL) (c:Int):Option (Qt38):=F30.S.g [.l a,.l b,.i c]
noncomputable def ZlP (k:Nat) (a b c d e f g h j m n o p q:LL) (r:Int):Option (Qt38):=F30.lp [2,1,4,1,3,1,3,1,0] 0 r0 k [.l a,.l b,.l c,.l d,.l e,.l f,.l g,.l h,.l j,.l m,.l n,.l o,.l p,.l q,.i r]
theorem ZqX (k:Nat) (f g m n o p q r h i j l b c:LL) (d:Int):ZlP (k+1) f g m n o p q r h i j l b c d =
 ((g21 f 18).bind fun s=>
 (g13 s 3).bind fun t=>
 if (cop .lss d t) then
 if (cop .lss d (List.length g:Int)) then
 ZE (Jw E0 b 120)<|
 Zm g d hs12 fun (a:Qt25)=>
 ZE (Jw b (E0++[[AV.val (.int .i64 a.1),AV.val (.int .i64 a.2.1),AV.val (.int .i64 a.2.2.1),AV.val (.int .i64 a.2.2.2.1),AV.val (.int .i64 a.2.2.2.2.1),AV.slice false 3 a.2.2.2.2.2.1,AV.val (.int .i64 a.2.2.2.2.2.2.1),AV.val (.int .i64 a.2.2.2.2.2.2.2.1),AV.val (.int .i64 a.2.2.2.2.2.2.2.2.1),AV.val (.int .i64 a.2.2.2.2.2.2.2.2.2.1),AV.val (.int .i64 a.2.2.2.2.2.2.2.2.2.2.1),AV.val (.int .i64 a.2.2.2.2.2.2.2.2.2.2.2.1),AV.val (.bool (d4 (d8 a)))]]) 120)<|
 ZE (Jw E0 c 24)<|
 (g21 f (iop .add .i64 19 d)).bind fun u=>
 (g22 u).bind fun e=>
 ZE (Jw c (E0++[[AV.val (.int .i64 e.1),AV.val (.int .i64 e.2.1),AV.val (.int .i64 e.2.2)]]) 24)<|
 ZlP k f g m n o p q r h i j l (b++(E0++[[AV.val (.int .i64 a.1),AV.val (.int .i64 a.2.1),AV.val (.int .i64 a.2.2.1),AV.val (.int .i64 a.2.2.2.1),AV.val (.int .i64 a.2.2.2.2.1),AV.slice false 3 a.2.2.2.2.2.1,AV.val (.int .i64 a.2.2.2.2.2.2.1),AV.val (.int .i64 a.2.2.2.2.2.2.2.1),AV.val (.int .i64 a.2.2.2.2.2.2.2.2.1),AV.val (.int .i64 a.2.2.2.2.2.2.2.2.2.1),AV.val (.int .i64 a.2.2.2.2.2.2.2.2.2.2.1),AV.val (.int .i64 a.2.2.2.2.2.2.2.2.2.2.2.1),AV.val (.bool (d4 (d8 a)))]])) (c++(E0++[[AV.val (.int .i64 e.1),AV.val (.int .i64 e.2.1),AV.val (.int .i64 e.2.2)]])) (iop .add .i64 d 1)
 else
 some (h,i,j,l,b,c)
 else
 some (h,i,j,l,b,c)):=by kernel_rfl
noncomputable def ZlN (k:Nat) (a b c d e f g h j m n o p q:LL) (r:Int):Option (Qt38):=F30.lp [2,1,4,1,3,1,0] 0 r0 k [.l a,.l b,.l c,.l d,.l e,.l f,.l g,.l h,.l j,.l m,.l n,.l o,.l p,.l q,.i r]
theorem ZpI (k:Nat) (b d e f g h i j l m n c o p:LL) (a:Int):ZlN (k+1) b d e f g h i j l m n c o p a =
 ((g21 b 16).bind fun r=>
 (g13 r 3).bind fun s=>
 if (cop .lss a s) then
 ZE (Jw E0 c 16)<|
 (g21 b (iop .add .i64 17 a)).bind fun t=>
 (g13 t 20).bind fun q=>
 ZE (Jw c (E0++[[AV.val (.int .i64 (iop .add .i64 a 1)),AV.val (.int .i64 q)]]) 16)<|
 ZlN k b d e f g h i j l m n (c++(E0++[[AV.val (.int .i64 (iop .add .i64 a 1)),AV.val (.int .i64 q)]])) o p (iop .add .i64 a 1)
 else
 ZlP Zr b d e f g h i j l m n c o p 0):=by kernel_rfl
noncomputable def Zjz (k:Nat) (a b c d e f g h j m n o p q:LL) (r:Int):Option (Qt38):=F30.lp [2,1,4,1,0] 0 r0 k [.l a,.l b,.l c,.l d,.l e,.l f,.l g,.l h,.l j,.l m,.l n,.l o,.l p,.l q,.i r]
theorem Zo6 (k:Nat) (c e f g h i j l m n d o p q:LL) (a:Int):Zjz (k+1) c e f g h i j l m n d o p q a =
 ((g21 c 14).bind fun r=>
 (g13 r 3).bind fun s=>
 if (cop .lss a s) then
 ZE (Jw E0 d 32)<|
 (g21 c (iop .add .i64 15 a)).bind fun t=>
 (g22 t).bind fun b=>
 ZE (Jw d (E0++[[AV.val (.int .i64 a),AV.val (.int .i64 b.1),AV.val (.int .i64 b.2.1),AV.val (.int .i64 b.2.2)]]) 32)<|
 Zjz k c e f g h i j l m n (d++(E0++[[AV.val (.int .i64 a),AV.val (.int .i64 b.1),AV.val (.int .i64 b.2.1),AV.val (.int .i64 b.2.2)]])) o p q (iop .add .i64 a 1)
 else
 ZlN Zr c e f g h i j l m n d o p q 0):=by kernel_rfl
noncomputable def ZfL (k:Nat) (a b c d e f g h j m n o p q:LL) (r:Int):Option (Qt38):=F30.lp [2,1,0] 0 r0 k [.l a,.l b,.l c,.l d,.l e,.l f,.l g,.l h,.l j,.l m,.l n,.l o,.l p,.l q,.i r]
theorem Zo0 (k:Nat) (d e g h i j l m n b o p q r:LL) (f:Int):ZfL (k+1) d e g h i j l m n b o p q r f =
 ((g21 d 12).bind fun t=>
 (g13 t 3).bind fun u=>
 if (cop .lss f u) then
 if (cop .gtr (List.length e:Int) 0) then
 (g24 d (iop .add .i64 13 f)).bind fun v=>
 (g21 d f).bind fun w=>
 (g13 w (List.length e:Int)).bind fun x=>
 Zm e x hs12 fun (c:Qt25)=>
 (g23 v c.2.2.1 c.2.2.2.1 c.2.2.2.2.1 c.2.2.2.2.2.1 c.2.2.2.2.2.2.1 c.2.2.2.2.2.2.2.1 c.2.2.2.2.2.2.2.2.1 c.2.2.2.2.2.2.2.2.2.1 c.2.2.2.2.2.2.2.2.2.2.1 c.2.2.2.2.2.2.2.2.2.2.2.1 (d4 (d8 c))).bind fun a=>
 if (cop .eql (List.length b:Int) 0) then
 ZE (Jw E0 b 240)<|
 ZE (Jw b (E0++[[I a.1,I a.2.1,I a.2.2.1,I a.2.2.2.1,I a.2.2.2.2.1,I a.2.2.2.2.2.1,I a.2.2.2.2.2.2.1,I a.2.2.2.2.2.2.2.1,I a.2.2.2.2.2.2.2.2.1,I a.2.2.2.2.2.2.2.2.2.1,I a.2.2.2.2.2.2.2.2.2.2.1,I a.2.2.2.2.2.2.2.2.2.2.2.1,AV.val (.int .i64 (d4 (d8 a)).1),AV.val (.int .i64 (d4 (d8 a)).2.1),AV.val (.int .i64 (d2 (d4 (d8 a))).1),AV.val (.int .i64 (d2 (d4 (d8 a))).2.1),AV.val (.int .i64 (d16 a).1),AV.val (.int .i64 (d16 a).2.1),AV.val (.int .i64 (d2 (d16 a)).1),AV.val (.int .i64 (d2 (d16 a)).2.1),AV.slice false 3 (d4 (d16 a)).1,AV.val (.int .i64 (d4 (d16 a)).2.1),AV.val (.int .i64 (d2 (d4 (d16 a))).1),AV.val (.int .i64 (d2 (d4 (d16 a))).2.1),AV.val (.int .i64 (d8 (d16 a)).1),AV.val (.int .i64 (d8 (d16 a)).2.1),AV.val (.int .i64 (d2 (d8 (d16 a))).1),AV.val (.bool (d2 (d8 (d16 a))).2)]]) 240)<|
 ZfL k d e g h i j l m n (b++(E0++[[I a.1,I a.2.1,I a.2.2.1,I a.2.2.2.1,I a.2.2.2.2.1,I a.2.2.2.2.2.1,I a.2.2.2.2.2.2.1,I a.2.2.2.2.2.2.2.1,I a.2.2.2.2.2.2.2.2.1,I a.2.2.2.2.2.2.2.2.2.1,I a.2.2.2.2.2.2.2.2.2.2.1,I a.2.2.2.2.2.2.2.2.2.2.2.1,AV.val (.int .i64 (d4 (d8 a)).1),AV.val (.int .i64 (d4 (d8 a)).2.1),AV.val (.int .i64 (d2 (d4 (d8 a))).1),AV.val (.int .i64 (d2 (d4 (d8 a))).2.1),AV.val (.int .i64 (d16 a).1),AV.val (.int .i64 (d16 a).2.1),AV.val (.int .i64 (d2 (d16 a)).1),AV.val (.int .i64 (d2 (d16 a)).2.1),AV.slice false 3 (d4 (d16 a)).1,AV.val (.int .i64 (d4 (d16 a)).2.1),AV.val (.int .i64 (d2 (d4 (d16 a))).1),AV.val (.int .i64 (d2 (d4 (d16 a))).2.1),AV.val (.int .i64 (d8 (d16 a)).1),AV.val (.int .i64 (d8 (d16 a)).2.1),AV.val (.int .i64 (d2 (d8 (d16 a))).1),AV.val (.bool (d2 (d8 (d16 a))).2)]])) o p q r (iop .add .i64 f 1)
 else
 Zm b (iop .sub .i64 (List.length b:Int) 1) hs6 fun (s:Qt10)=>
 (g82 s.1 s.2.1 s.2.2.1 a.1 a.2.1 a.2.2.1).bind fun y=>
 if y then
 ZE (Jw E0 b 240)<|
 ZE (Jw b (E0++[[I a.1,I a.2.1,I a.2.2.1,I a.2.2.2.1,I a.2.2.2.2.1,I a.2.2.2.2.2.1,I a.2.2.2.2.2.2.1,I a.2.2.2.2.2.2.2.1,I a.2.2.2.2.2.2.2.2.1,I a.2.2.2.2.2.2.2.2.2.1,I a.2.2.2.2.2.2.2.2.2.2.1,I a.2.2.2.2.2.2.2.2.2.2.2.1,AV.val (.int .i64 (d4 (d8 a)).1),AV.val (.int .i64 (d4 (d8 a)).2.1),AV.val (.int .i64 (d2 (d4 (d8 a))).1),AV.val (.int .i64 (d2 (d4 (d8 a))).2.1),AV.val (.int .i64 (d16 a).1),AV.val (.int .i64 (d16 a).2.1),AV.val (.int .i64 (d2 (d16 a)).1),AV.val (.int .i64 (d2 (d16 a)).2.1),AV.slice false 3 (d4 (d16 a)).1,AV.val (.int .i64 (d4 (d16 a)).2.1),AV.val (.int .i64 (d2 (d4 (d16 a))).1),AV.val (.int .i64 (d2 (d4 (d16 a))).2.1),AV.val (.int .i64 (d8 (d16 a)).1),AV.val (.int .i64 (d8 (d16 a)).2.1),AV.val (.int .i64 (d2 (d8 (d16 a))).1),AV.val (.bool (d2 (d8 (d16 a))).2)]]) 240)<|
 ZfL k d e g h i j l m n (b++(E0++[[I a.1,I a.2.1,I a.2.2.1,I a.2.2.2.1,I a.2.2.2.2.1,I a.2.2.2.2.2.1,I a.2.2.2.2.2.2.1,I a.2.2.2.2.2.2.2.1,I a.2.2.2.2.2.2.2.2.1,I a.2.2.2.2.2.2.2.2.2.1,I a.2.2.2.2.2.2.2.2.2.2.1,I a.2.2.2.2.2.2.2.2.2.2.2.1,AV.val (.int .i64 (d4 (d8 a)).1),AV.val (.int .i64 (d4 (d8 a)).2.1),AV.val (.int .i64 (d2 (d4 (d8 a))).1),AV.val (.int .i64 (d2 (d4 (d8 a))).2.1),AV.val (.int .i64 (d16 a).1),AV.val (.int .i64 (d16 a).2.1),AV.val (.int .i64 (d2 (d16 a)).1),AV.val (.int .i64 (d2 (d16 a)).2.1),AV.slice false 3 (d4 (d16 a)).1,AV.val (.int .i64 (d4 (d16 a)).2.1),AV.val (.int .i64 (d2 (d4 (d16 a))).1),AV.val (.int .i64 (d2 (d4 (d16 a))).2.1),AV.val (.int .i64 (d8 (d16 a)).1),AV.val (.int .i64 (d8 (d16 a)).2.1),AV.val (.int .i64 (d2 (d8 (d16 a))).1),AV.val (.bool (d2 (d8 (d16 a))).2)]])) o p q r (iop .add .i64 f 1)
 else
 ZfL k d e g h i j l m n b o p q r (iop .add .i64 f 1)
 else
 Zjz Zr d e g h i j l m n b o p q r 0
 else
 Zjz Zr d e g h i j l m n b o p q r 0):=by kernel_rfl
noncomputable def Zbl (k:Nat) (a b c d e f g h j m n o p q:LL) (r:Int):Option (Qt38):=F30.lp [2] 0 r0 k [.l a,.l b,.l c,.l d,.l e,.l f,.l g,.l h,.l j,.l m,.l n,.l o,.l p,.l q,.i r]
theorem Zqc (k:Nat) (d f g h i j l m b n o p q r:LL) (a:Int):Zbl (k+1) d f g h i j l m b n o p q r a =
 (if (cop .lss a (List.length b:Int)) then
 (g21 d a).bind fun t=>
 (g13 t 5).bind fun u=>
 if (cop .eql u 4) then
 ZE ((0:Int)≤a)<|
 ZE ((a:Int) < (List.length b:Int))<|
 Zm b a hs11 fun (c:Qt21)=>
 (g81 c.1 c.2.1 c.2.2.1 c.2.2.2.1 c.2.2.2.2.1 c.2.2.2.2.2.1 c.2.2.2.2.2.2.1 c.2.2.2.2.2.2.2.1 c.2.2.2.2.2.2.2.2.1 c.2.2.2.2.2.2.2.2.2.1 c.2.2.2.2.2.2.2.2.2.2.1 c.2.2.2.2.2.2.2.2.2.2.2.1 (d4 (d8 c)).1 (d4 (d8 c)).2.1 (d2 (d4 (d8 c)))).bind fun v=>
 if (!v) then
 (g21 d a).bind fun s=>
 ZE ((5:Int)≠0)<|
 (g22 (iop .quo .i64 s 5)).bind fun e=>
 ZE ((0:Int)≤a)<|
 ZE ((a:Int) < (List.length b:Int))<|
 ZE ((0:Int)≤a)<|
 ZE ((a:Int) < (List.length b:Int))<|
 (g21 d a).bind fun w=>
 (g13 w 7).bind fun x=>
 if (cop .eql x 6) then
 (g21 d a).bind fun y=>
 ZE ((7:Int)≠0)<|
 (g13 (iop .quo .i64 y 7) 20).bind fun z=>
 ZE ((0:Int)≤a)<|
 ZE ((a:Int) < (List.length (Jc b (Int.toNat a) 12 [AV.val (.int .i64 e.1),AV.val (.int .i64 e.2.1),AV.val (.int .i64 e.2.2)]):Int))<|
 ZE ((0:Int)≤a)<|
 ZE ((a:Int) < (List.length (Jc b (Int.toNat a) 12 [AV.val (.int .i64 e.1),AV.val (.int .i64 e.2.1),AV.val (.int .i64 e.2.2)]):Int))<|
 Zbl k d f g h i j l m (Jc (Jc b (Int.toNat a) 12 [AV.val (.int .i64 e.1),AV.val (.int .i64 e.2.1),AV.val (.int .i64 e.2.2)]) (Int.toNat a) 11 [AV.val (.int .i64 (iop .add .i64 1 z))]) n o p q r (iop .add .i64 a 1)
 else
 Zbl k d f g h i j l m (Jc b (Int.toNat a) 12 [AV.val (.int .i64 e.1),AV.val (.int .i64 e.2.1),AV.val (.int .i64 e.2.2)]) n o p q r (iop .add .i64 a 1)
 else
 (g21 d a).bind fun s=>
 (g13 s 7).bind fun e=>
 if (cop .eql e 6) then
 (g21 d a).bind fun A=>
 ZE ((7:Int)≠0)<|
 (g13 (iop .quo .i64 A 7) 20).bind fun C=>
 ZE ((0:Int)≤a)<|
 ZE ((a:Int) < (List.length b:Int))<|
 ZE ((0:Int)≤a)<|
 ZE ((a:Int) < (List.length b:Int))<|
 Zbl k d f g h i j l m (Jc b (Int.toNat a) 11 [AV.val (.int .i64 (iop .add .i64 1 C))]) n o p q r (iop .add .i64 a 1)
 else
 Zbl k d f g h i j l m b n o p q r (iop .add .i64 a 1)
 else
 (g21 d a).bind fun c=>
 (g13 c 7).bind fun D=>
 if (cop .eql D 6) then
 (g21 d a).bind fun E=>
 ZE ((7:Int)≠0)<|
 (g13 (iop .quo .i64 E 7) 20).bind fun G=>
 ZE ((0:Int)≤a)<|
 ZE ((a:Int) < (List.length b:Int))<|
 ZE ((0:Int)≤a)<|
 ZE ((a:Int) < (List.length b:Int))<|
 Zbl k d f g h i j l m (Jc b (Int.toNat a) 11 [AV.val (.int .i64 (iop .add .i64 1 G))]) n o p q r (iop .add .i64 a 1)
 else
 Zbl k d f g h i j l m b n o p q r (iop .add .i64 a 1)
 else
 ZfL Zr d f g h i j l m b n o p q r 0):=by kernel_rfl
theorem ZwF (b a:LL) (c:Int):g30 b a c =
 ((g80 a c).bind fun d=>
 Zbl Zr b a E0 E0 E0 E0 E0 E0 d E0 E0 E0 E0 E0 0):=by kernel_rfl
noncomputable def F28:Fn:=⟨37,[4],[],[],0,[],[],Tryz.f28,[.c (.slice 1),.c (.slice 13)],[.agg hs7],[(21,F21.S),(13,F13.S),(24,F24.S),(29,F29.S),(30,F30.S)]⟩
theorem ZE5:F28.S.Ok Tryz.prog 28:=F28.ok Tryz.func28 (by kernel_rfl) ⟨Zvp,⟨ZnE,⟨ZAG,⟨ZC2,⟨ZDt,trivial⟩⟩⟩⟩⟩
noncomputable def g28 (a b:LL):Option (Qt19):=F28.S.g [.l a,.l b]
theorem ZwS (b f:LL):g28 b f =
 ((g21 b 0).bind fun h=>
 (g13 h 4).bind fun e=>
 (g24 b 1).bind fun i=>
 (g29 i).bind fun c=>
 (g24 b 2).bind fun j=>
 (g30 j f e).bind fun a=>
 (g21 b 3).bind fun k=>
 (g13 k 2).bind fun l=>
 if (cop .eql l 1) then
 (g24 b 4).bind fun m=>
 (g29 m).bind fun g=>
 (g24 b 5).bind fun n=>
 (g30 n f e).bind fun d=>
 some (e,c.1,c.2.1,c.2.2,a.1,a.2.1,a.2.2.1,a.2.2.2.1,a.2.2.2.2.1,a.2.2.2.2.2,true,g.1,g.2.1,g.2.2,d.1,d.2.1,d.2.2.1,d.2.2.2.1,d.2.2.2.2.1,d.2.2.2.2.2)
 else
 some (e,c.1,c.2.1,c.2.2,a.1,a.2.1,a.2.2.1,a.2.2.2.1,a.2.2.2.2.1,a.2.2.2.2.2,false,0,E0,E0,E0,E0,E0,E0,E0,E0)):=by kernel_rfl
noncomputable def F10:Fn:=⟨199,[6],[(18,[(1,.c (.slice 1)),(2,.c (.slice 13)),(6,.box hs0),(7,.box hs0),(9,.c (.int .i64))]),(41,[(1,.c (.slice 1)),(6,.box hs0),(7,.box hs0),(11,.c (.int .i64))])],[],0,[],[],Tryz.f10,[.c (.int .i64),.c (.slice 1),.c (.slice 13)],[.agg hs0],[(13,F13.S),(21,F21.S),(22,F22.S),(24,F24.S),(23,F23.S),(25,F25.S),(26,F26.S),(27,F27.S),(28,F28.S),(29,F29.S),(30,F30.S)]⟩
theorem ZEn:F10.S.Ok Tryz.prog 10:=F10.ok Tryz.func10 (by kernel_rfl) ⟨ZnE,⟨Zvp,⟨ZAc,⟨ZAG,⟨ZDp,⟨Zv3,⟨ZES,⟨ZFj,⟨ZE5,⟨ZC2,⟨ZDt,trivial⟩⟩⟩⟩⟩⟩⟩⟩⟩⟩⟩
noncomputable def g10 (a:Int) (b c:LL):Option (Qt5):=F10.S.g [.i a,.l b,.l c]
noncomputable def Zl1 (k:Nat) (a c:LL) (d e f g h j m n o p q:Int) (r:Bool) (s t u v w x y z A C D E G H J K L M N O:Int) (P:LL) (Q R T U V W:Int) (X:Bool) (Y Z aa ab:LL) (ac ad:Int) (ae af ag ah ai aj ak al:LL) (am an:Int) (ao ap aq ar aZ au av aw:LL) (ax:Bool) (ay:Int) (az a0 a1 a2 a3 a4 a5 a6:LL) (a7 a8 a9 ba bb bc bd be bf bg bh:Int) (bi:Bool) (bj bk bl bm bn bo bp bq br bs bt bu bv bw bx bz b0 b1 b2 b3:Int) (b4:LL) (b5 b6 b7 b8 b9 ca:Int) (cb:Bool) (cc cd ce cf:LL) (cg ch:Int) (ci cj ck cl cm cn co cp:LL) (cq cr:Int) (cs ct cu cv cw cx cy cz:LL) (c0:Bool) (c1:Int) (c2 c3 c4 c5 c6 c7 c8 c9:LL) (da:Int):Option (Qt5):=F10.lp [10,4,3,2,1,0,5] 0 r0 k [.l a,.l c,.i d,.i e,.i f,.i g,.i h,.i j,.i m,.i n,.i o,.i p,.i q,.b r,.i s,.i t,.i u,.i v,.i w,.i x,.i y,.i z,.i A,.i C,.i D,.i E,.i G,.i H,.i J,.i K,.i L,.i M,.i N,.i O,.l P,.i Q,.i R,.i T,.i U,.i V,.i W,.b X,.l Y,.l Z,.l aa,.l ab,.i ac,.i ad,.l ae,.l af,.l ag,.l ah,.l ai,.l aj,.l ak,.l al,.i am,.i an,.l ao,.l ap,.l aq,.l ar,.l aZ,.l au,.l av,.l aw,.b ax,.i ay,.l az,.l a0,.l a1,.l a2,.l a3,.l a4,.l a5,.l a6,.i a7,.i a8,.i a9,.i ba,.i bb,.i bc,.i bd,.i be,.i bf,.i bg,.i bh,.b bi,.i bj,.i bk,.i bl,.i bm,.i bn,.i bo,.i bp,.i bq,.i br,.i bs,.i bt,.i bu,.i bv,.i bw,.i bx,.i bz,.i b0,.i b1,.i b2,.i b3,.l b4,.i b5,.i b6,.i b7,.i b8,.i b9,.i ca,.b cb,.l cc,.l cd,.l ce,.l cf,.i cg,.i ch,.l ci,.l cj,.l ck,.l cl,.l cm,.l cn,.l co,.l cp,.i cq,.i cr,.l cs,.l ct,.l cu,.l cv,.l cw,.l cx,.l cy,.l cz,.b c0,.i c1,.l c2,.l c3,.l c4,.l c5,.l c6,.l c7,.l c8,.l c9,.i da]
theorem ZpG (k:Nat) (x0 e:LL) (x2 x3 x4 x5 x6 x7 x8 x9 bf bg bh:Int) (bi:Bool) (bj bk bl bm bn bo bp bq br bs bt bu bv bw bx bz b0 b1 b2 b3:Int) (b4:LL) (b5 b6 b7 b8 b9 ca:Int) (cb:Bool) (cc cd ce cf:LL) (cg ch:Int) (ci cj ck cl cm cn co cp:LL) (cq cr:Int) (cs ct cu cv cw cx cy cz:LL) (c0:Bool) (c1:Int) (c2 c3 c4 c5 c6 c7 c8 c9:LL) (f g h i j l m n o p q:Int) (r:Bool) (s t u v w x y z A C D E G H J K L M N O:Int) (P:LL) (Q R T U V W:Int) (X:Bool) (Y c Z aa:LL) (ab ac:Int) (ad ae af ag ah ai aj ak:LL) (al am:Int) (an ao ap aq ar aZ au av:LL) (aw:Bool) (ax:Int) (ay az a0 a1 a2 a3 a4 a5:LL) (d:Int):Zl1 (k+1) x0 e x2 x3 x4 x5 x6 x7 x8 x9 bf bg bh bi bj bk bl bm bn bo bp bq br bs bt bu bv bw bx bz b0 b1 b2 b3 b4 b5 b6 b7 b8 b9 ca cb cc cd ce cf cg ch ci cj ck cl cm cn co cp cq cr cs ct cu cv cw cx cy cz c0 c1 c2 c3 c4 c5 c6 c7 c8 c9 f g h i j l m n o p q r s t u v w x y z A C D E G H J K L M N O P Q R T U V W X Y c Z aa ab ac ad ae af ag ah ai aj ak al am an ao ap aq ar aZ au av aw ax ay az a0 a1 a2 a3 a4 a5 d =
 ((g21 x0 8).bind fun da=>
 (g13 da 3).bind fun db=>
 if (cop .lss d db) then
 if (cop .lss d (List.length e:Int)) then
 ZE (Jw E0 c 104)<|
 Zm e d hs12 fun (b:Qt25)=>
 (g25 b.2.2.1 b.2.2.2.1 b.2.2.2.2.1 b.2.2.2.2.2.1 b.2.2.2.2.2.2.1 b.2.2.2.2.2.2.2.1 b.2.2.2.2.2.2.2.2.1 b.2.2.2.2.2.2.2.2.2.1 b.2.2.2.2.2.2.2.2.2.2.1 b.2.2.2.2.2.2.2.2.2.2.2.1 (d4 (d8 b))).bind fun a=>
 ZE (Jw c (E0++[[AV.val (.int .i64 a.1),AV.val (.int .i64 a.2.1),AV.val (.int .i64 a.2.2.1),AV.slice false 3 a.2.2.2.1,AV.val (.int .i64 a.2.2.2.2.1),AV.val (.int .i64 a.2.2.2.2.2.1),AV.val (.int .i64 a.2.2.2.2.2.2.1),AV.val (.int .i64 a.2.2.2.2.2.2.2.1),AV.val (.int .i64 a.2.2.2.2.2.2.2.2.1),AV.val (.int .i64 a.2.2.2.2.2.2.2.2.2.1),AV.val (.bool a.2.2.2.2.2.2.2.2.2.2)]]) 104)<|
 Zl1 k x0 e x2 x3 x4 x5 x6 x7 x8 x9 bf bg bh bi bj bk bl bm bn bo bp bq br bs bt bu bv bw bx bz b0 b1 b2 b3 b4 b5 b6 b7 b8 b9 ca cb cc cd ce cf cg ch ci cj ck cl cm cn co cp cq cr cs ct cu cv cw cx cy cz c0 c1 c2 c3 c4 c5 c6 c7 c8 c9 f g h i j l m n o p q r s t u v w x y z A C D E G H J K L M N O P Q R T U V W X Y (c++(E0++[[AV.val (.int .i64 a.1),AV.val (.int .i64 a.2.1),AV.val (.int .i64 a.2.2.1),AV.slice false 3 a.2.2.2.1,AV.val (.int .i64 a.2.2.2.2.1),AV.val (.int .i64 a.2.2.2.2.2.1),AV.val (.int .i64 a.2.2.2.2.2.2.1),AV.val (.int .i64 a.2.2.2.2.2.2.2.1),AV.val (.int .i64 a.2.2.2.2.2.2.2.2.1),AV.val (.int .i64 a.2.2.2.2.2.2.2.2.2.1),AV.val (.bool a.2.2.2.2.2.2.2.2.2.2)]])) Z aa ab ac ad ae af ag ah ai aj ak al am an ao ap aq ar aZ au av aw ax ay az a0 a1 a2 a3 a4 a5 (iop .add .i64 d 1)
 else
 some (f,g,h,i,j,l,m,n,o,p,q,r,s,t,u,v,w,x,y,z,A,C,D,E,G,H,J,K,L,M,N,O,P,Q,R,T,U,V,W,X,Y,c,Z,aa,ab,ac,ad,ae,af,ag,ah,ai,aj,ak,al,am,an,ao,ap,aq,ar,aZ,au,av,aw,ax,ay,az,a0,a1,a2,a3,a4,a5)
 else
 some (f,g,h,i,j,l,m,n,o,p,q,r,s,t,u,v,w,x,y,z,A,C,D,E,G,H,J,K,L,M,N,O,P,Q,R,T,U,V,W,X,Y,c,Z,aa,ab,ac,ad,ae,af,ag,ah,ai,aj,ak,al,am,an,ao,ap,aq,ar,aZ,au,av,aw,ax,ay,az,a0,a1,a2,a3,a4,a5)):=by kernel_rfl
noncomputable def Zmb (k:Nat) (a:LL) (c d e f g h j m n o p:Int) (q:Bool) (r s t u v w x y z A C D E G H J K L M N:Int) (O:LL) (P Q R T U V:Int) (W:Bool) (X Y Z aa:LL) (ab ac:Int) (ad ae af ag ah ai aj ak:LL) (al am:Int) (an ao ap aq ar aZ au av:LL) (aw:Bool) (ax:Int) (ay az a0 a1 a2 a3 a4 a5:LL) (a6 a7 a8 a9 ba bb bc bd be bf bg:Int) (bh:Bool) (bi bj bk bl bm bn bo bp bq br bs bt bu bv bw bx bz b0 b1 b2:Int) (b3:LL) (b4 b5 b6 b7 b8 b9:Int) (ca:Bool) (cb cc cd ce:LL) (cf cg:Int) (ch ci cj ck cl cm cn co:LL) (cp cq:Int) (cr cs ct cu cv cw cx cy:LL) (cz:Bool) (c0:Int) (c1 c2 c3 c4 c5 c6 c7 c8:LL) (c9:Int):Option (Qt5):=F10.lp [10,4,3,2,1,1,1,1,1,1,1,1,0,3] 0 r0 k [.l a,.i c,.i d,.i e,.i f,.i g,.i h,.i j,.i m,.i n,.i o,.i p,.b q,.i r,.i s,.i t,.i u,.i v,.i w,.i x,.i y,.i z,.i A,.i C,.i D,.i E,.i G,.i H,.i J,.i K,.i L,.i M,.i N,.l O,.i P,.i Q,.i R,.i T,.i U,.i V,.b W,.l X,.l Y,.l Z,.l aa,.i ab,.i ac,.l ad,.l ae,.l af,.l ag,.l ah,.l ai,.l aj,.l ak,.i al,.i am,.l an,.l ao,.l ap,.l aq,.l ar,.l aZ,.l au,.l av,.b aw,.i ax,.l ay,.l az,.l a0,.l a1,.l a2,.l a3,.l a4,.l a5,.i a6,.i a7,.i a8,.i a9,.i ba,.i bb,.i bc,.i bd,.i be,.i bf,.i bg,.b bh,.i bi,.i bj,.i bk,.i bl,.i bm,.i bn,.i bo,.i bp,.i bq,.i br,.i bs,.i bt,.i bu,.i bv,.i bw,.i bx,.i bz,.i b0,.i b1,.i b2,.l b3,.i b4,.i b5,.i b6,.i b7,.i b8,.i b9,.b ca,.l cb,.l cc,.l cd,.l ce,.i cf,.i cg,.l ch,.l ci,.l cj,.l ck,.l cl,.l cm,.l cn,.l co,.i cp,.i cq,.l cr,.l cs,.l ct,.l cu,.l cv,.l cw,.l cx,.l cy,.b cz,.i c0,.l c1,.l c2,.l c3,.l c4,.l c5,.l c6,.l c7,.l c8,.i c9]
theorem ZqY (k:Nat) (a:LL) (x1 x2 x3 x4 x5 x6 x7 x8 x9 bd be:Int) (bf:Bool) (bg bh bi bj bk bl bm bn bo bp bq br bs bt bu bv bw bx bz b0:Int) (b1:LL) (b2 b3 b4 b5 b6 b7:Int) (b8:Bool) (b9 ca cb cc:LL) (cd ce:Int) (cf cg ch ci cj ck cl cm:LL) (cn co:Int) (cp cq cr cs ct cu cv cw:LL) (cx:Bool) (cy:Int) (cz c0 c1 c2 c3 c4 c5 c6:LL) (d e f g h i j l m n o:Int) (p:Bool) (q r s t u v w x y z A C D E G H J K L M:Int) (N:LL) (O P Q R T U:Int) (V:Bool) (W X Y b:LL) (Z aa:Int) (ab ac ad ae af ag ah ai:LL) (aj ak:Int) (al am an ao ap aq ar aZ:LL) (au:Bool) (av:Int) (aw ax ay az a0 a1 a2 a3:LL) (c:Int):Zmb (k+1) a x1 x2 x3 x4 x5 x6 x7 x8 x9 bd be bf bg bh bi bj bk bl bm bn bo bp bq br bs bt bu bv bw bx bz b0 b1 b2 b3 b4 b5 b6 b7 b8 b9 ca cb cc cd ce cf cg ch ci cj ck cl cm cn co cp cq cr cs ct cu cv cw cx cy cz c0 c1 c2 c3 c4 c5 c6 d e f g h i j l m n o p q r s t u v w x y z A C D E G H J K L M N O P Q R T U V W X Y b Z aa ab ac ad ae af ag ah ai aj ak al am an ao ap aq ar aZ au av aw ax ay az a0 a1 a2 a3 c =
 ((g21 a 7).bind fun c9=>
 (g13 c9 3).bind fun da=>
 if (cop .lss c da) then
 ZE (Jw E0 b 16)<|
 (g21 a (iop .add .i64 8 c)).bind fun db=>
 (g13 db 3).bind fun c7=>
 (g21 a (iop .add .i64 9 c)).bind fun dc=>
 (g13 dc 4).bind fun c8=>
 ZE (Jw b (E0++[[AV.val (.int .i64 c7),AV.val (.int .i64 c8)]]) 16)<|
 Zmb k a x1 x2 x3 x4 x5 x6 x7 x8 x9 bd be bf bg bh bi bj bk bl bm bn bo bp bq br bs bt bu bv bw bx bz b0 b1 b2 b3 b4 b5 b6 b7 b8 b9 ca cb cc cd ce cf cg ch ci cj ck cl cm cn co cp cq cr cs ct cu cv cw cx cy cz c0 c1 c2 c3 c4 c5 c6 d e f g h i j l m n o p q r s t u v w x y z A C D E G H J K L M N O P Q R T U V W X Y (b++(E0++[[AV.val (.int .i64 c7),AV.val (.int .i64 c8)]])) Z aa ab ac ad ae af ag ah ai aj ak al am an ao ap aq ar aZ au av aw ax ay az a0 a1 a2 a3 (iop .add .i64 c 1)
 else
 some (d,e,f,g,h,i,j,l,m,n,o,p,q,r,s,t,u,v,w,x,y,z,A,C,D,E,G,H,J,K,L,M,N,O,P,Q,R,T,U,V,W,X,Y,b,Z,aa,ab,ac,ad,ae,af,ag,ah,ai,aj,ak,al,am,an,ao,ap,aq,ar,aZ,au,av,aw,ax,ay,az,a0,a1,a2,a3)):=by kernel_rfl
noncomputable def m10 (c f:LL) (k m1 m2 m3 m4 m5 m7 m8 m9 n0 n1 n2:Int) (n3:LL) (n4 n5 n6 n7 n8 n9:Int) (n10:Bool):Option (Qt5):=
 if (cop .eql k 1) then
 (g24 c 5).bind fun b=>
 (g23 b n0 n1 n2 n3 n4 n5 n6 n7 n8 n9 n10).bind fun a=>
 some (k,m1,m2,m3,m4,m5,0,m7,m8,m9,0,false,a.1,a.2.1,a.2.2.1,a.2.2.2.1,a.2.2.2.2.1,a.2.2.2.2.2.1,a.2.2.2.2.2.2.1,a.2.2.2.2.2.2.2.1,a.2.2.2.2.2.2.2.2.1,a.2.2.2.2.2.2.2.2.2.1,a.2.2.2.2.2.2.2.2.2.2.1,a.2.2.2.2.2.2.2.2.2.2.2.1,(d4 (d8 a)).1,(d4 (d8 a)).2.1,(d2 (d4 (d8 a))).1,(d2 (d4 (d8 a))).2.1,(d16 a).1,(d16 a).2.1,(d2 (d16 a)).1,(d2 (d16 a)).2.1,(d4 (d16 a)).1,(d4 (d16 a)).2.1,(d2 (d4 (d16 a))).1,(d2 (d4 (d16 a))).2.1,(d8 (d16 a)).1,(d8 (d16 a)).2.1,(d2 (d8 (d16 a))).1,(d2 (d8 (d16 a))).2,E0,E0,E0,E0,0,0,E0,E0,E0,E0,E0,E0,E0,E0,0,0,E0,E0,E0,E0,E0,E0,E0,E0,false,0,E0,E0,E0,E0,E0,E0,E0,E0)
 else
 if (cop .eql k 2) then
 (g21 c 6).bind fun b=>
 (g13 b 20).bind fun a=>
 (g21 c 7).bind fun d=>
 (g13 d 2).bind fun g=>
 Zl1 Zr c f 0 0 0 0 0 0 0 0 0 0 0 false 0 0 0 0 0 0 0 0 0 0 0 0 0 0 0 0 0 0 0 0 E0 0 0 0 0 0 0 false E0 E0 E0 E0 0 0 E0 E0 E0 E0 E0 E0 E0 E0 0 0 E0 E0 E0 E0 E0 E0 E0 E0 false 0 E0 E0 E0 E0 E0 E0 E0 E0 k m1 m2 m3 m4 m5 0 m7 m8 m9 a (cop .eql g 1) 0 0 0 0 0 0 0 0 0 0 0 0 0 0 0 0 0 0 0 0 E0 0 0 0 0 0 0 false E0 E0 E0 E0 0 0 E0 E0 E0 E0 E0 E0 E0 E0 0 0 E0 E0 E0 E0 E0 E0 E0 E0 false 0 E0 E0 E0 E0 E0 E0 E0 E0 0
 else
 if (cop .eql k 4) then
 (g21 c 6).bind fun b=>
 (g13 b 12).bind fun a=>
 (g25 n0 n1 n2 n3 n4 n5 n6 n7 n8 n9 n10).bind fun d=>
 some (k,m1,m2,m3,m4,m5,a,m7,m8,m9,0,false,0,0,0,0,0,0,0,0,0,0,0,0,0,0,0,0,0,0,0,0,E0,0,0,0,0,0,0,false,E0,(E0++[[AV.val (.int .i64 d.1),AV.val (.int .i64 d.2.1),AV.val (.int .i64 d.2.2.1),AV.slice false 3 d.2.2.2.1,AV.val (.int .i64 d.2.2.2.2.1),AV.val (.int .i64 d.2.2.2.2.2.1),AV.val (.int .i64 d.2.2.2.2.2.2.1),AV.val (.int .i64 d.2.2.2.2.2.2.2.1),AV.val (.int .i64 d.2.2.2.2.2.2.2.2.1),AV.val (.int .i64 d.2.2.2.2.2.2.2.2.2.1),AV.val (.bool d.2.2.2.2.2.2.2.2.2.2)]]),E0,E0,0,0,E0,E0,E0,E0,E0,E0,E0,E0,0,0,E0,E0,E0,E0,E0,E0,E0,E0,false,0,E0,E0,E0,E0,E0,E0,E0,E0)
 else
 if (cop .eql k 5) then
 (g21 c 6).bind fun b=>
 (g13 b 20).bind fun a=>
 some (k,m1,m2,m3,m4,m5,0,m7,m8,m9,a,false,0,0,0,0,0,0,0,0,0,0,0,0,0,0,0,0,0,0,0,0,E0,0,0,0,0,0,0,false,E0,E0,E0,E0,0,0,E0,E0,E0,E0,E0,E0,E0,E0,0,0,E0,E0,E0,E0,E0,E0,E0,E0,false,0,E0,E0,E0,E0,E0,E0,E0,E0)
 else
 if (cop .eql k 6) then
 (g24 c 6).bind fun b=>
 (g26 b).bind fun a=>
 some (k,m1,m2,m3,m4,m5,0,m7,m8,m9,0,false,0,0,0,0,0,0,0,0,0,0,0,0,0,0,0,0,0,0,0,0,E0,0,0,0,0,0,0,false,a,E0,E0,E0,0,0,E0,E0,E0,E0,E0,E0,E0,E0,0,0,E0,E0,E0,E0,E0,E0,E0,E0,false,0,E0,E0,E0,E0,E0,E0,E0,E0)
 else
 if (cop .eql k 12) then
 (g21 c 6).bind fun b=>
 (g27 b).bind fun a=>
 some (k,m1,m2,m3,m4,m5,0,m7,m8,m9,0,false,0,0,0,0,0,0,0,0,0,0,0,0,0,0,0,0,0,0,0,0,E0,0,0,0,0,0,0,false,E0,E0,a,E0,0,0,E0,E0,E0,E0,E0,E0,E0,E0,0,0,E0,E0,E0,E0,E0,E0,E0,E0,false,0,E0,E0,E0,E0,E0,E0,E0,E0)
 else
 if (cop .eql k 13) then
 (g24 c 6).bind fun b=>
 (g28 b f).bind fun a=>
 some (k,m1,m2,m3,m4,m5,0,m7,m8,m9,0,false,0,0,0,0,0,0,0,0,0,0,0,0,0,0,0,0,0,0,0,0,E0,0,0,0,0,0,0,false,E0,E0,E0,E0,0,0,E0,E0,E0,E0,E0,E0,E0,E0,a.1,a.2.1,a.2.2.1,a.2.2.2.1,a.2.2.2.2.1,a.2.2.2.2.2.1,a.2.2.2.2.2.2.1,a.2.2.2.2.2.2.2.1,a.2.2.2.2.2.2.2.2.1,a.2.2.2.2.2.2.2.2.2.1,a.2.2.2.2.2.2.2.2.2.2.1,a.2.2.2.2.2.2.2.2.2.2.2.1,(d4 (d8 a)).1,(d4 (d8 a)).2.1,(d2 (d4 (d8 a))).1,(d2 (d4 (d8 a))).2.1,(d16 a).1,(d16 a).2.1,(d2 (d16 a)).1,(d2 (d16 a)).2)
 else
 if (cop .eql k 14) then
 (g21 c 5).bind fun b=>
 (g13 b 70).bind fun a=>
 (g21 c 6).bind fun d=>
 (g27 d).bind fun g=>
 (g24 c 7).bind fun i=>
 (g29 i).bind fun h=>
 (g24 c 8).bind fun j=>
 (g21 c 9).bind fun l=>
 (g13 l 4).bind fun m=>
 (g30 j f m).bind fun e=>
 some (k,m1,m2,m3,m4,m5,0,m7,m8,m9,0,false,0,0,0,0,0,0,0,0,0,0,0,0,0,0,0,0,0,0,0,0,E0,0,0,0,0,0,0,false,E0,E0,g,E0,a,h.1,h.2.1,h.2.2,e.1,e.2.1,e.2.2.1,e.2.2.2.1,e.2.2.2.2.1,e.2.2.2.2.2,0,0,E0,E0,E0,E0,E0,E0,E0,E0,false,0,E0,E0,E0,E0,E0,E0,E0,E0)
 else
 if (cop .eql k 17) then
 (g21 c 6).bind fun b=>
 (g27 b).bind fun a=>
 Zmb Zr c 0 0 0 0 0 0 0 0 0 0 0 false 0 0 0 0 0 0 0 0 0 0 0 0 0 0 0 0 0 0 0 0 E0 0 0 0 0 0 0 false E0 E0 E0 E0 0 0 E0 E0 E0 E0 E0 E0 E0 E0 0 0 E0 E0 E0 E0 E0 E0 E0 E0 false 0 E0 E0 E0 E0 E0 E0 E0 E0 k m1 m2 m3 m4 m5 0 m7 m8 m9 0 false 0 0 0 0 0 0 0 0 0 0 0 0 0 0 0 0 0 0 0 0 E0 0 0 0 0 0 0 false E0 E0 a E0 0 0 E0 E0 E0 E0 E0 E0 E0 E0 0 0 E0 E0 E0 E0 E0 E0 E0 E0 false 0 E0 E0 E0 E0 E0 E0 E0 E0 0
 else
 some (k,m1,m2,m3,m4,m5,0,m7,m8,m9,0,false,0,0,0,0,0,0,0,0,0,0,0,0,0,0,0,0,0,0,0,0,E0,0,0,0,0,0,0,false,E0,E0,E0,E0,0,0,E0,E0,E0,E0,E0,E0,E0,E0,0,0,E0,E0,E0,E0,E0,E0,E0,E0,false,0,E0,E0,E0,E0,E0,E0,E0,E0)
theorem ZxW (o:Int) (b d:LL):g10 o b d =
 ((g13 o 17).bind fun c=>
 (g21 b 0).bind fun p=>
 (g13 p 70).bind fun f=>
 (g21 b 1).bind fun q=>
 (g13 q 4).bind fun g=>
 (g21 b 2).bind fun r=>
 (g13 r 4).bind fun h=>
 (g21 b 3).bind fun s=>
 (g22 s).bind fun e=>
 if (cop .gtr (List.length d:Int) 0) then
 (g21 b 3).bind fun j=>
 (g13 j (List.length d:Int)).bind fun i=>
 Zm d i hs12 fun (a:Qt25)=>
 if (cop .leq (iop .add .i64 1 c) 11) then
 (g21 b 4).bind fun l=>
 (g13 l 3).bind fun k=>
 if (cop .neq (iop .add .i64 1 c) 1) then
 (g21 b 5).bind fun t=>
 (g22 t).bind fun m=>
 m10 b d (iop .add .i64 1 c) f g h 0 k m.1 m.2.1 m.2.2 a.2.2.1 a.2.2.2.1 a.2.2.2.2.1 a.2.2.2.2.2.1 a.2.2.2.2.2.2.1 a.2.2.2.2.2.2.2.1 a.2.2.2.2.2.2.2.2.1 a.2.2.2.2.2.2.2.2.2.1 a.2.2.2.2.2.2.2.2.2.2.1 a.2.2.2.2.2.2.2.2.2.2.2.1 (d4 (d8 a))
 else
 m10 b d (iop .add .i64 1 c) f g h 0 k 0 0 0 a.2.2.1 a.2.2.2.1 a.2.2.2.2.1 a.2.2.2.2.2.1 a.2.2.2.2.2.2.1 a.2.2.2.2.2.2.2.1 a.2.2.2.2.2.2.2.2.1 a.2.2.2.2.2.2.2.2.2.1 a.2.2.2.2.2.2.2.2.2.2.1 a.2.2.2.2.2.2.2.2.2.2.2.1 (d4 (d8 a))
 else
 if (cop .lss (iop .add .i64 1 c) 17) then
 (g21 b 4).bind fun l=>
 (g13 l 5).bind fun k=>
 m10 b d (iop .add .i64 1 c) f g h k 0 0 0 0 a.2.2.1 a.2.2.2.1 a.2.2.2.2.1 a.2.2.2.2.2.1 a.2.2.2.2.2.2.1 a.2.2.2.2.2.2.2.1 a.2.2.2.2.2.2.2.2.1 a.2.2.2.2.2.2.2.2.2.1 a.2.2.2.2.2.2.2.2.2.2.1 a.2.2.2.2.2.2.2.2.2.2.2.1 (d4 (d8 a))
 else
 m10 b d (iop .add .i64 1 c) f g h 0 0 0 0 0 a.2.2.1 a.2.2.2.1 a.2.2.2.2.1 a.2.2.2.2.2.1 a.2.2.2.2.2.2.1 a.2.2.2.2.2.2.2.1 a.2.2.2.2.2.2.2.2.1 a.2.2.2.2.2.2.2.2.2.1 a.2.2.2.2.2.2.2.2.2.2.1 a.2.2.2.2.2.2.2.2.2.2.2.1 (d4 (d8 a))
 else
 if (cop .leq (iop .add .i64 1 c) 11) then
 (g21 b 4).bind fun j=>
 (g13 j 3).bind fun i=>
 if (cop .neq (iop .add .i64 1 c) 1) then
 (g21 b 5).bind fun a=>
 (g22 a).bind fun n=>
 m10 b d (iop .add .i64 1 c) f g h 0 i n.1 n.2.1 n.2.2 e.1 e.2.1 e.2.2 E0 2 4096 12 3 0 0 false
 else
 m10 b d (iop .add .i64 1 c) f g h 0 i 0 0 0 e.1 e.2.1 e.2.2 E0 2 4096 12 3 0 0 false
 else
 if (cop .lss (iop .add .i64 1 c) 17) then
 (g21 b 4).bind fun j=>
 (g13 j 5).bind fun i=>
 m10 b d (iop .add .i64 1 c) f g h i 0 0 0 0 e.1 e.2.1 e.2.2 E0 2 4096 12 3 0 0 false
 else
 m10 b d (iop .add .i64 1 c) f g h 0 0 0 0 0 e.1 e.2.1 e.2.2 E0 2 4096 12 3 0 0 false):=by kernel_rfl
end Go.Proofs.YtjldbnbdcmfbmaaGreat
