/- Functions of the program, as what they compute. -/
import Derived.Test.YtlgmnddelljbmaaGreatM6
namespace Go.Proofs.YtlgmnddelljbmaaGreat
open Go Go.AM
set_option linter.unusedVariables false
set_option maxRecDepth 100000
set_option synthInstance.maxSize 2000
noncomputable def F10:Fn:=⟨2,[0],[],[],0,[],[],Tryz.f10,[],[.agg [.int .i64,.int .i64,.bool]],[]⟩
theorem ZuJ:F10.S.Ok Tryz.prog 10:=F10.ok Tryz.func10 (by kernel_rfl) trivial
noncomputable def g10:Option (Int×Int×Bool):=F10.S.g []
noncomputable def F22:Fn:=⟨16,[8],[],[],0,[],[],Tryz.f22,[.c (.int .i64),.c (.int .i64),.c (.int .i64),.c (.int .i64)],[.agg hs7],[]⟩
theorem Zvu:F22.S.Ok Tryz.prog 22:=F22.ok Tryz.func22 (by kernel_rfl) trivial
noncomputable def F8:Fn:=⟨63,[0],[],[],0,[],[],Tryz.f8,[],[.c (.bool)],[(10,F10.S),(9,F9.S),(22,F22.S),(14,F14.S),(18,F18.S),(21,F21.S)]⟩
theorem ok8:F8.S.Ok Tryz.prog 8:=F8.ok Tryz.func8 (by kernel_rfl) ⟨ZuJ,⟨ok9,⟨Zvu,⟨ZuL,⟨ZuI,⟨Zuz,trivial⟩⟩⟩⟩⟩⟩
noncomputable def g8:Option (Bool):=F8.S.g []
noncomputable def F12:Fn:=⟨16,[4],[],[],0,[],[],Tryz.f12,[.c (.int .i64),.c (.int .i64)],[.c (.int .i64)],[]⟩
theorem Zuj:F12.S.Ok Tryz.prog 12:=F12.ok Tryz.func12 (by kernel_rfl) trivial
noncomputable def g12 (a b:Int):Option (Int):=F12.S.g [.i a,.i b]
theorem Zqz (b a:Int):g12 b a =
 (if (cop .lss a 1) then
 some (0)
 else
 ZA ((a:Int)≠0)<|
 if (cop .lss (iop .rem .i64 b a) 0) then
 some ((iop .add .i64 (iop .rem .i64 b a) a))
 else
 some ((iop .rem .i64 b a))):=by kernel_rfl
noncomputable def Zrp:Fn:=⟨20,[4],[],[],0,[],[],Tryz.f138,[.c (.int .i64),.c (.int .i64)],[.agg [.int .i64,.int .i64]],[(12,F12.S)]⟩
theorem Zt0:Zrp.S.Ok Tryz.prog 138:=Zrp.ok Tryz.func138 (by kernel_rfl) ⟨Zuj,trivial⟩
noncomputable def Zsd (a b:Int):Option (Int×Int):=Zrp.S.g [.i a,.i b]
theorem ZnN (b c:Int):Zsd b c =
 ((g12 c 11).bind fun a=>
 ZA ((0:Int)≤(IntKind.wrap .u64 (iop .sub .i64 16 (iop .add .i64 6 a))))<|
 (g12 b (iop .shl .i64 1 (IntKind.wrap .u64 (iop .sub .i64 16 (iop .add .i64 6 a))))).bind fun d=>
 ZA ((0:Int)≤(IntKind.wrap .u64 (iop .add .i64 6 a)))<|
 some ((iop .shl .i64 d (IntKind.wrap .u64 (iop .add .i64 6 a))),(iop .add .i64 6 a))):=by kernel_rfl
noncomputable def F78:Fn:=⟨14,[4],[],[],0,[],[],Tryz.f78,[.c (.int .i64),.c (.int .i64)],[.agg hs22],[(138,Zrp.S)]⟩
theorem Zv3:F78.S.Ok Tryz.prog 78:=F78.ok Tryz.func78 (by kernel_rfl) ⟨Zt0,trivial⟩
noncomputable def g78 (a b:Int):Option (Qt26):=F78.S.g [.i a,.i b]
theorem Zpf (a b:Int):g78 a b =
 ((Zsd a b).bind fun c=>
 some (1,c.1,c.2,7,0,0,false)):=by kernel_rfl
noncomputable def Zox:Fn:=⟨21,[4],[(2,[(0,.c (.slice 13)),(3,.box [.int .i64,.int .i64,.int .i64]),(5,.c (.int .i64))])],[],0,[],[],Tryz.f110,[.c (.slice 13),.agg [.int .i64,.int .i64,.int .i64]],[.c (.int .i64)],[]⟩
theorem ZqM:Zox.S.Ok Tryz.prog 110:=Zox.ok Tryz.func110 (by kernel_rfl) trivial
noncomputable def ZrP (a:LL) (b c d:Int):Option (Int):=Zox.S.g [.l a,.i b,.i c,.i d]
noncomputable def ZcH (k:Nat) (a:LL) (b c d e:Int):Option (Int):=Zox.lp [0] 0 r0 k [.l a,.i b,.i c,.i d,.i e]
theorem Zfk (k:Nat) (b:LL) (c d e a:Int):ZcH (k+1) b c d e a =
 (if (cop .lss a (List.length b:Int)) then
 Zt b a hs18 fun (f:Qt21)=>
 if ((cop .eql f.2.2.1 c)&&((cop .eql f.2.2.2.1 d)&&((cop .eql f.2.2.2.2.1 e)&&true))) then
 some (a)
 else
 ZcH k b c d e (iop .add .i64 a 1)
 else
 some ((-1))):=by kernel_rfl
theorem ZnK (a:LL) (b c d:Int):ZrP a b c d =
 (ZcH Jn a b c d 0):=by kernel_rfl
noncomputable def Zqy:Fn:=⟨8,[2],[],[],0,[],[],Tryz.f140,[.agg hs22],[.agg [.int .i64,.int .i64]],[]⟩
theorem ZqN:Zqy.S.Ok Tryz.prog 140:=Zqy.ok Tryz.func140 (by kernel_rfl) trivial
noncomputable def ZkN (a c d e f h:Int) (j:Bool):Option (Int×Int):=Zqy.S.g [.i a,.i c,.i d,.i e,.i f,.i h,.b j]
theorem ZnE (c a b d e f:Int) (g:Bool):ZkN c a b d e f g =
 (some (a,b)):=by kernel_rfl
noncomputable def Zno:Fn:=⟨38,[2],[],[],0,[],[],Tryz.f188,[.agg [.int .i64,.int .i64]],[.c (.bool)],[]⟩
theorem Zlb:Zno.S.Ok Tryz.prog 188:=Zno.ok Tryz.func188 (by kernel_rfl) trivial
noncomputable def Zmw (a b:Int):Option (Bool):=Zno.S.g [.i a,.i b]
theorem Zol (b a:Int):Zmw b a =
 (if (cop .lss a 6) then
 some (false)
 else
 if (cop .gtr a 40) then
 some (false)
 else
 if (cop .lss b 0) then
 some (false)
 else
 if (cop .geq b 1099511627776) then
 some (false)
 else
 ZA ((0:Int)≤(IntKind.wrap .u64 a))<|
 ZA (((iop .shl .i64 1 (IntKind.wrap .u64 a)):Int)≠0)<|
 if (cop .eql (iop .rem .i64 b (iop .shl .i64 1 (IntKind.wrap .u64 a))) 0) then
 some ((cop .leq (iop .add .i64 b (iop .shl .i64 1 (IntKind.wrap .u64 a))) 1099511627776))
 else
 some (false)):=by kernel_rfl
noncomputable def Zo1:Fn:=⟨13,[2],[],[],0,[],[],Tryz.f189,[.agg [.int .i64,.int .i64]],[.c (.int .i64)],[(188,Zno.S)]⟩
theorem ZpJ:Zo1.S.Ok Tryz.prog 189:=Zo1.ok Tryz.func189 (by kernel_rfl) ⟨Zlb,trivial⟩
noncomputable def Zow (a b:Int):Option (Int):=Zo1.S.g [.i a,.i b]
theorem Znh (b a:Int):Zow b a =
 ((Zmw b a).bind fun c=>
 if (!c) then
 some (0)
 else
 ZA ((0:Int)≤(IntKind.wrap .u64 a))<|
 some ((iop .add .i64 b (iop .shl .i64 1 (IntKind.wrap .u64 a))))):=by kernel_rfl
noncomputable def ZrG:Fn:=⟨25,[4],[],[],0,[],[],Tryz.f139,[.agg [.int .i64,.int .i64],.agg [.int .i64,.int .i64]],[.c (.bool)],[(188,Zno.S),(189,Zo1.S)]⟩
theorem Zuw:ZrG.S.Ok Tryz.prog 139:=ZrG.ok Tryz.func139 (by kernel_rfl) ⟨Zlb,⟨ZpJ,trivial⟩⟩
noncomputable def Zut (a b c d:Int):Option (Bool):=ZrG.S.g [.i a,.i b,.i c,.i d]
theorem Zog (a c b d:Int):Zut a c b d =
 ((Zmw a c).bind fun e=>
 if e then
 (Zmw b d).bind fun f=>
 if f then
 if (cop .leq a b) then
 (Zow b d).bind fun g=>
 (Zow a c).bind fun h=>
 some ((cop .leq g h))
 else
 some (false)
 else
 some (false)
 else
 some (false)):=by kernel_rfl
noncomputable def Zrq:Fn:=⟨25,[4],[],[],0,[],[],Tryz.f141,[.agg [.int .i64,.int .i64],.agg [.int .i64,.int .i64]],[.c (.bool)],[(188,Zno.S),(189,Zo1.S)]⟩
theorem Ztl:Zrq.S.Ok Tryz.prog 141:=Zrq.ok Tryz.func141 (by kernel_rfl) ⟨Zlb,⟨ZpJ,trivial⟩⟩
noncomputable def ZpD (a b c d:Int):Option (Bool):=Zrq.S.g [.i a,.i b,.i c,.i d]
theorem ZnT (a c b d:Int):ZpD a c b d =
 ((Zmw a c).bind fun e=>
 if e then
 (Zmw b d).bind fun f=>
 if f then
 (Zow b d).bind fun g=>
 if (cop .lss a g) then
 (Zow a c).bind fun h=>
 some ((cop .lss b h))
 else
 some (false)
 else
 some (false)
 else
 some (false)):=by kernel_rfl
noncomputable def F79:Fn:=⟨64,[6],[(3,[(0,.c (.slice 13)),(2,.c (.slice 7)),(7,.c (.int .i64)),(8,.c (.int .i64))]),(6,[(0,.c (.slice 13)),(2,.c (.slice 7)),(7,.c (.int .i64)),(8,.c (.int .i64)),(9,.c (.int .i64))])],[],0,[],[],Tryz.f79,[.c (.slice 13),.agg [.int .i64,.int .i64,.int .i64],.c (.slice 7)],[.c (.bool)],[(110,Zox.S),(140,Zqy.S),(139,ZrG.S),(141,Zrq.S)]⟩
theorem Zvi:F79.S.Ok Tryz.prog 79:=F79.ok Tryz.func79 (by kernel_rfl) ⟨ZqM,⟨ZqN,⟨Zuw,⟨Ztl,trivial⟩⟩⟩⟩
noncomputable def g79 (a:LL) (b c d:Int) (e:LL):Option (Bool):=F79.S.g [.l a,.i b,.i c,.i d,.l e]
noncomputable def Za1 (rec0:List V→Option (Bool)) (k:Nat) (a b:LL) (c d e:Int):Option (Bool):=F79.lp [3,0] 1 (Zod r0 0 rec0) k [.l a,.l b,.i c,.i d,.i e]
theorem ZgK (rec0:List V→Option (Bool)) (k:Nat) (c d:LL) (f e h:Int):Za1 rec0 (k+1) c d f e h =
 (if (cop .lss h (List.length c:Int)) then
 Zt c h hs18 fun (a:Qt21)=>
 if (cop .geq f 0) then
 if (cop .eql a.2.2.2.2.2.2.1 1) then
 (ZkN a.2.2.2.2.2.2.1 a.2.2.2.2.2.2.2.1 a.2.2.2.2.2.2.2.2.1 a.2.2.2.2.2.2.2.2.2.1 a.2.2.2.2.2.2.2.2.2.2.1 a.2.2.2.2.2.2.2.2.2.2.2.1 (d4 (d8 a))).bind fun g=>
 Zt c f hs18 fun (b:Qt21)=>
 (ZkN b.2.2.2.2.2.2.1 b.2.2.2.2.2.2.2.1 b.2.2.2.2.2.2.2.2.1 b.2.2.2.2.2.2.2.2.2.1 b.2.2.2.2.2.2.2.2.2.2.1 b.2.2.2.2.2.2.2.2.2.2.2.1 (d4 (d8 b))).bind fun o=>
 (Zut g.1 g.2 o.1 o.2).bind fun r=>
 (ZkN a.2.2.2.2.2.2.1 a.2.2.2.2.2.2.2.1 a.2.2.2.2.2.2.2.2.1 a.2.2.2.2.2.2.2.2.2.1 a.2.2.2.2.2.2.2.2.2.2.1 a.2.2.2.2.2.2.2.2.2.2.2.1 (d4 (d8 a))).bind fun p=>
 Zt d e hs22 fun (j:Qt26)=>
 (ZkN j.1 j.2.1 j.2.2.1 j.2.2.2.1 j.2.2.2.2.1 j.2.2.2.2.2.1 j.2.2.2.2.2.2).bind fun q=>
 (ZpD p.1 p.2 q.1 q.2).bind fun s=>
 if s then
 if (!r) then
 some (true)
 else
 Za1 rec0 k c d f e (iop .add .i64 h 1)
 else
 Za1 rec0 k c d f e (iop .add .i64 h 1)
 else
 (ZkN a.2.2.2.2.2.2.1 a.2.2.2.2.2.2.2.1 a.2.2.2.2.2.2.2.2.1 a.2.2.2.2.2.2.2.2.2.1 a.2.2.2.2.2.2.2.2.2.2.1 a.2.2.2.2.2.2.2.2.2.2.2.1 (d4 (d8 a))).bind fun g=>
 Zt d e hs22 fun (b:Qt26)=>
 (ZkN b.1 b.2.1 b.2.2.1 b.2.2.2.1 b.2.2.2.2.1 b.2.2.2.2.2.1 b.2.2.2.2.2.2).bind fun m=>
 (ZpD g.1 g.2 m.1 m.2).bind fun n=>
 if n then
 some (true)
 else
 Za1 rec0 k c d f e (iop .add .i64 h 1)
 else
 (ZkN a.2.2.2.2.2.2.1 a.2.2.2.2.2.2.2.1 a.2.2.2.2.2.2.2.2.1 a.2.2.2.2.2.2.2.2.2.1 a.2.2.2.2.2.2.2.2.2.2.1 a.2.2.2.2.2.2.2.2.2.2.2.1 (d4 (d8 a))).bind fun g=>
 Zt d e hs22 fun (b:Qt26)=>
 (ZkN b.1 b.2.1 b.2.2.1 b.2.2.2.1 b.2.2.2.2.1 b.2.2.2.2.2.1 b.2.2.2.2.2.2).bind fun m=>
 (ZpD g.1 g.2 m.1 m.2).bind fun n=>
 if n then
 some (true)
 else
 Za1 rec0 k c d f e (iop .add .i64 h 1)
 else
 rec0 [.l c,.l d,.i f,.i (iop .add .i64 e 1)]):=by kernel_rfl
noncomputable def Zir (k:Nat) (a b:LL) (c d:Int):Option (Bool):=F79.lp [2] 0 r0 k [.l a,.l b,.i c,.i d]
theorem Zgt (k:Nat) (c a:LL) (d b:Int):Zir (k+1) c a d b =
 (if (cop .lss b (List.length a:Int)) then
 Za1 (F79.lp [2] 0 r0 k) Jn c a d b 0
 else
 some (false)):=by kernel_rfl
theorem Zpv (a:LL) (b c d:Int) (e:LL):g79 a b c d e =
 ((ZrP a b c d).bind fun f=>
 Zir Jn a e f 0):=by kernel_rfl
noncomputable def ZqL:Fn:=⟨31,[6],[(2,[(0,.c (.slice 13)),(1,.c (.int .i64)),(2,.c (.int .i64)),(7,.c (.int .i64))])],[],0,[],[],Tryz.f111,[.c (.slice 13),.c (.int .i64),.c (.int .i64)],[.c (.int .i64)],[]⟩
theorem Ztb:ZqL.S.Ok Tryz.prog 111:=ZqL.ok Tryz.func111 (by kernel_rfl) trivial
noncomputable def Ztf (a:LL) (b c:Int):Option (Int):=ZqL.S.g [.l a,.i b,.i c]
noncomputable def Zbl (k:Nat) (a:LL) (b c d:Int):Option (Int):=ZqL.lp [0] 0 r0 k [.l a,.i b,.i c,.i d]
theorem Zfe (k:Nat) (b:LL) (c d a:Int):Zbl (k+1) b c d a =
 (if (cop .lss a (List.length b:Int)) then
 Zt b a hs18 fun (e:Qt21)=>
 if (cop .eql e.1 c) then
 Zt b a hs18 fun (f:Qt21)=>
 if (cop .eql f.2.1 d) then
 some (a)
 else
 Zbl k b c d (iop .add .i64 a 1)
 else
 Zbl k b c d (iop .add .i64 a 1)
 else
 some ((-1))):=by kernel_rfl
theorem Zns (a:LL) (b c:Int):Ztf a b c =
 (Zbl Jn a b c 0):=by kernel_rfl
noncomputable def Zri:Fn:=⟨30,[4],[],[],0,[],[],Tryz.f112,[.agg [.int .i64,.int .i64,.int .i64],.agg [.int .i64,.int .i64,.int .i64]],[.c (.bool)],[]⟩
theorem ZtX:Zri.S.Ok Tryz.prog 112:=Zri.ok Tryz.func112 (by kernel_rfl) trivial
noncomputable def Zt9 (a b c d e f:Int):Option (Bool):=Zri.S.g [.i a,.i b,.i c,.i d,.i e,.i f]
theorem ZmV (a b e c d f:Int):Zt9 a b e c d f =
 (if (cop .neq a c) then
 some ((cop .lss a c))
 else
 if (cop .neq b d) then
 some ((cop .lss b d))
 else
 some ((cop .lss e f))):=by kernel_rfl
noncomputable def F39:Fn:=⟨5,[2],[],[],0,[],[],Tryz.f39,[.c (.slice 3)],[.c (.own false 33)],[]⟩
theorem ZuH:F39.S.Ok Tryz.prog 39:=F39.ok Tryz.func39 (by kernel_rfl) trivial
noncomputable def g39 (a:LL):Option (LL):=F39.S.g [.l a]
theorem Zp5 (a:LL):g39 a =
 (ZA (Jb E0 a 24)<|
 some (a)):=by kernel_rfl
noncomputable def F13:Fn:=⟨8,[2],[],[],0,[],[],Tryz.f13,[.agg hs19],[.agg hs19],[(39,F39.S)]⟩
theorem Zsu:F13.S.Ok Tryz.prog 13:=F13.ok Tryz.func13 (by kernel_rfl) ⟨ZuH,trivial⟩
noncomputable def g13 (a c d:Int) (e:LL) (f h j k m n:Int) (o:Bool):Option (Qt24):=F13.S.g [.i a,.i c,.i d,.l e,.i f,.i h,.i j,.i k,.i m,.i n,.b o]
theorem Zq6 (a b c:Int) (d:LL) (e f g h i j:Int) (k:Bool):g13 a b c d e f g h i j k =
 ((g39 d).bind fun l=>
 some (a,b,c,l,e,f,g,h,i,j,k)):=by kernel_rfl
noncomputable def F11:Fn:=⟨32,[2],[(3,[(0,.c (.slice 13)),(3,.c (.own false 40)),(4,.c (.int .i64))])],[],0,[],[],Tryz.f11,[.c (.slice 13)],[.c (.own false 40)],[(13,F13.S)]⟩
theorem Zs3:F11.S.Ok Tryz.prog 11:=F11.ok Tryz.func11 (by kernel_rfl) ⟨Zsu,trivial⟩
noncomputable def g11 (a:LL):Option (LL):=F11.S.g [.l a]
noncomputable def Zif (k:Nat) (a b:LL) (c:Int):Option (LL):=F11.lp [0] 0 r0 k [.l a,.l b,.i c]
theorem Zg5 (k:Nat) (c e:LL) (d:Int):Zif (k+1) c e d =
 (if (cop .lss d (List.length c:Int)) then
 Zt c d hs18 fun (f:Qt21)=>
 Zt c d hs18 fun (g:Qt21)=>
 Zt c d hs18 fun (b:Qt21)=>
 (g13 b.2.2.1 b.2.2.2.1 b.2.2.2.2.1 b.2.2.2.2.2.1 b.2.2.2.2.2.2.1 b.2.2.2.2.2.2.2.1 b.2.2.2.2.2.2.2.2.1 b.2.2.2.2.2.2.2.2.2.1 b.2.2.2.2.2.2.2.2.2.2.1 b.2.2.2.2.2.2.2.2.2.2.2.1 (d4 (d8 b))).bind fun a=>
 ZA (Jb e (E0++[[AV.val (.int .i64 f.1),AV.val (.int .i64 g.2.1),AV.val (.int .i64 a.1),AV.val (.int .i64 a.2.1),AV.val (.int .i64 a.2.2.1),AV.slice false 3 a.2.2.2.1,AV.val (.int .i64 a.2.2.2.2.1),AV.val (.int .i64 a.2.2.2.2.2.1),AV.val (.int .i64 a.2.2.2.2.2.2.1),AV.val (.int .i64 a.2.2.2.2.2.2.2.1),AV.val (.int .i64 a.2.2.2.2.2.2.2.2.1),AV.val (.int .i64 a.2.2.2.2.2.2.2.2.2.1),AV.val (.bool a.2.2.2.2.2.2.2.2.2.2)]]) 120)<|
 Zif k c (e++(E0++[[AV.val (.int .i64 f.1),AV.val (.int .i64 g.2.1),AV.val (.int .i64 a.1),AV.val (.int .i64 a.2.1),AV.val (.int .i64 a.2.2.1),AV.slice false 3 a.2.2.2.1,AV.val (.int .i64 a.2.2.2.2.1),AV.val (.int .i64 a.2.2.2.2.2.1),AV.val (.int .i64 a.2.2.2.2.2.2.1),AV.val (.int .i64 a.2.2.2.2.2.2.2.1),AV.val (.int .i64 a.2.2.2.2.2.2.2.2.1),AV.val (.int .i64 a.2.2.2.2.2.2.2.2.2.1),AV.val (.bool a.2.2.2.2.2.2.2.2.2.2)]])) (iop .add .i64 d 1)
 else
 some (e)):=by kernel_rfl
theorem Zpc (a:LL):g11 a =
 (Zif Jn a E0 0):=by kernel_rfl
noncomputable def F53:Fn:=⟨62,[4,5],[(4,[(0,.c (.slice 13)),(3,.box hs18),(6,.c (.int .i64))])],[],0,[],[],Tryz.f53,[.c (.slice 13),.agg hs18],[.c (.own false 40),.c (.bool)],[(110,Zox.S),(111,ZqL.S),(112,Zri.S),(11,F11.S),(13,F13.S)]⟩
theorem Zvw:F53.S.Ok Tryz.prog 53:=F53.ok Tryz.func53 (by kernel_rfl) ⟨ZqM,⟨Ztb,⟨ZtX,⟨Zs3,⟨Zsu,trivial⟩⟩⟩⟩⟩
noncomputable def g53 (a:LL) (c d e f h:Int) (j:LL) (k m n o p q:Int) (r:Bool):Option (LL×Bool):=F53.S.g [.l a,.i c,.i d,.i e,.i f,.i h,.l j,.i k,.i m,.i n,.i o,.i p,.i q,.b r]
noncomputable def Zh2 (k:Nat) (a:LL) (c d e f g:Int) (h:LL) (j m n o p q:Int) (r:Bool) (s:Int):Option (LL×Bool):=F53.lp [0,1,0,1,0] 0 r0 k [.l a,.i c,.i d,.i e,.i f,.i g,.l h,.i j,.i m,.i n,.i o,.i p,.i q,.b r,.i s]
theorem Zg7 (k:Nat) (d:LL) (e f h i j:Int) (l:LL) (m n o p q r:Int) (s:Bool) (c:Int):Zh2 (k+1) d e f h i j l m n o p q r s c =
 (if (cop .lss c (List.length d:Int)) then
 Zt d c hs18 fun (g:Qt21)=>
 (Zt9 h i j g.2.2.1 g.2.2.2.1 g.2.2.2.2.1).bind fun w=>
 if (!w) then
 Zh2 k d e f h i j l m n o p q r s (iop .add .i64 c 1)
 else
 ZA ((0:Int)≤c)<|
 ZA ((c:Int)≤(List.length d:Int))<|
 (g11 (List.take (Int.toNat c) d)).bind fun t=>
 (g13 h i j l m n o p q r s).bind fun a=>
 ZA (Jb t (E0++[[AV.val (.int .i64 e),AV.val (.int .i64 f),AV.val (.int .i64 a.1),AV.val (.int .i64 a.2.1),AV.val (.int .i64 a.2.2.1),AV.slice false 3 a.2.2.2.1,AV.val (.int .i64 a.2.2.2.2.1),AV.val (.int .i64 a.2.2.2.2.2.1),AV.val (.int .i64 a.2.2.2.2.2.2.1),AV.val (.int .i64 a.2.2.2.2.2.2.2.1),AV.val (.int .i64 a.2.2.2.2.2.2.2.2.1),AV.val (.int .i64 a.2.2.2.2.2.2.2.2.2.1),AV.val (.bool a.2.2.2.2.2.2.2.2.2.2)]]) 120)<|
 ZA ((0:Int)≤c)<|
 ZA ((c:Int)≤(List.length d:Int))<|
 (g11 (List.drop (Int.toNat c) d)).bind fun u=>
 ZA (Jb (t++(E0++[[AV.val (.int .i64 e),AV.val (.int .i64 f),AV.val (.int .i64 a.1),AV.val (.int .i64 a.2.1),AV.val (.int .i64 a.2.2.1),AV.slice false 3 a.2.2.2.1,AV.val (.int .i64 a.2.2.2.2.1),AV.val (.int .i64 a.2.2.2.2.2.1),AV.val (.int .i64 a.2.2.2.2.2.2.1),AV.val (.int .i64 a.2.2.2.2.2.2.2.1),AV.val (.int .i64 a.2.2.2.2.2.2.2.2.1),AV.val (.int .i64 a.2.2.2.2.2.2.2.2.2.1),AV.val (.bool a.2.2.2.2.2.2.2.2.2.2)]])) u 120)<|
 some (((t++(E0++[[AV.val (.int .i64 e),AV.val (.int .i64 f),AV.val (.int .i64 a.1),AV.val (.int .i64 a.2.1),AV.val (.int .i64 a.2.2.1),AV.slice false 3 a.2.2.2.1,AV.val (.int .i64 a.2.2.2.2.1),AV.val (.int .i64 a.2.2.2.2.2.1),AV.val (.int .i64 a.2.2.2.2.2.2.1),AV.val (.int .i64 a.2.2.2.2.2.2.2.1),AV.val (.int .i64 a.2.2.2.2.2.2.2.2.1),AV.val (.int .i64 a.2.2.2.2.2.2.2.2.2.1),AV.val (.bool a.2.2.2.2.2.2.2.2.2.2)]]))++u),true)
 else
 ZA ((0:Int)≤c)<|
 ZA ((c:Int)≤(List.length d:Int))<|
 (g11 (List.take (Int.toNat c) d)).bind fun g=>
 (g13 h i j l m n o p q r s).bind fun b=>
 ZA (Jb g (E0++[[AV.val (.int .i64 e),AV.val (.int .i64 f),AV.val (.int .i64 b.1),AV.val (.int .i64 b.2.1),AV.val (.int .i64 b.2.2.1),AV.slice false 3 b.2.2.2.1,AV.val (.int .i64 b.2.2.2.2.1),AV.val (.int .i64 b.2.2.2.2.2.1),AV.val (.int .i64 b.2.2.2.2.2.2.1),AV.val (.int .i64 b.2.2.2.2.2.2.2.1),AV.val (.int .i64 b.2.2.2.2.2.2.2.2.1),AV.val (.int .i64 b.2.2.2.2.2.2.2.2.2.1),AV.val (.bool b.2.2.2.2.2.2.2.2.2.2)]]) 120)<|
 ZA ((0:Int)≤c)<|
 ZA ((c:Int)≤(List.length d:Int))<|
 (g11 (List.drop (Int.toNat c) d)).bind fun v=>
 ZA (Jb (g++(E0++[[AV.val (.int .i64 e),AV.val (.int .i64 f),AV.val (.int .i64 b.1),AV.val (.int .i64 b.2.1),AV.val (.int .i64 b.2.2.1),AV.slice false 3 b.2.2.2.1,AV.val (.int .i64 b.2.2.2.2.1),AV.val (.int .i64 b.2.2.2.2.2.1),AV.val (.int .i64 b.2.2.2.2.2.2.1),AV.val (.int .i64 b.2.2.2.2.2.2.2.1),AV.val (.int .i64 b.2.2.2.2.2.2.2.2.1),AV.val (.int .i64 b.2.2.2.2.2.2.2.2.2.1),AV.val (.bool b.2.2.2.2.2.2.2.2.2.2)]])) v 120)<|
 some (((g++(E0++[[AV.val (.int .i64 e),AV.val (.int .i64 f),AV.val (.int .i64 b.1),AV.val (.int .i64 b.2.1),AV.val (.int .i64 b.2.2.1),AV.slice false 3 b.2.2.2.1,AV.val (.int .i64 b.2.2.2.2.1),AV.val (.int .i64 b.2.2.2.2.2.1),AV.val (.int .i64 b.2.2.2.2.2.2.1),AV.val (.int .i64 b.2.2.2.2.2.2.2.1),AV.val (.int .i64 b.2.2.2.2.2.2.2.2.1),AV.val (.int .i64 b.2.2.2.2.2.2.2.2.2.1),AV.val (.bool b.2.2.2.2.2.2.2.2.2.2)]]))++v),true)):=by kernel_rfl
theorem Zp7 (a:LL) (b c d e f:Int) (g:LL) (h i j k l m:Int) (n:Bool):g53 a b c d e f g h i j k l m n =
 ((ZrP a d e f).bind fun o=>
 if (cop .geq o 0) then
 some (E0,false)
 else
 (Ztf a b c).bind fun p=>
 if (cop .geq p 0) then
 some (E0,false)
 else
 Zh2 Jn a b c d e f g h i j k l m n 0):=by kernel_rfl
noncomputable def F80:Fn:=⟨24,[8],[],[],0,[],[],Tryz.f80,[.c (.slice 13),.c (.int .i64),.c (.int .i64),.agg hs19],[.c (.slice 13)],[(53,F53.S)]⟩
theorem ZvF:F80.S.Ok Tryz.prog 80:=F80.ok Tryz.func80 (by kernel_rfl) ⟨Zvw,trivial⟩
noncomputable def g80 (a:LL) (c d e f h:Int) (j:LL) (k m n o p q:Int) (r:Bool):Option (LL):=F80.S.g [.l a,.i c,.i d,.i e,.i f,.i h,.l j,.i k,.i m,.i n,.i o,.i p,.i q,.b r]
theorem Zpq (a:LL) (b c d e f:Int) (g:LL) (h i j k l m:Int) (n:Bool):g80 a b c d e f g h i j k l m n =
 ((g53 a b c d e f g h i j k l m n).bind fun o=>
 if (!o.2) then
 some (a)
 else
 some (o.1)):=by kernel_rfl
noncomputable def F81:Fn:=⟨11,[4],[],[],0,[],[],Tryz.f81,[.agg hs22,.c (.int .i64)],[.agg hs22],[]⟩
theorem ZvM:F81.S.Ok Tryz.prog 81:=F81.ok Tryz.func81 (by kernel_rfl) trivial
noncomputable def g81 (a c d e f h:Int) (j:Bool) (k:Int):Option (Qt26):=F81.S.g [.i a,.i c,.i d,.i e,.i f,.i h,.b j,.i k]
theorem ZqQ (a b c d e f:Int) (g:Bool) (h:Int):g81 a b c d e f g h =
 (some (a,b,c,(iop .and .i64 d h),e,f,g)):=by kernel_rfl
noncomputable def Zrr:Fn:=⟨12,[2],[],[],0,[],[],Tryz.f190,[.c (.int .i64)],[.c (.int .i64)],[]⟩
theorem Zuv:Zrr.S.Ok Tryz.prog 190:=Zrr.ok Tryz.func190 (by kernel_rfl) trivial
noncomputable def Zss (a:Int):Option (Int):=Zrr.S.g [.i a]
theorem Znq (a:Int):Zss a =
 (if (cop .eql a 3) then
 some (12)
 else
 if (cop .eql a 4) then
 some (6)
 else
 if (cop .eql a 5) then
 some (10)
 else
 if (cop .eql a 6) then
 some (16)
 else
 some (0)):=by kernel_rfl
noncomputable def Zo3:Fn:=⟨35,[4],[],[],0,[],[],Tryz.f143,[.c (.int .i64),.c (.int .i64)],[.c (.bool)],[(190,Zrr.S)]⟩
theorem ZoZ:Zo3.S.Ok Tryz.prog 143:=Zo3.ok Tryz.func143 (by kernel_rfl) ⟨Zuv,trivial⟩
noncomputable def Zrg (a b:Int):Option (Bool):=Zo3.S.g [.i a,.i b]
theorem Znt (a b:Int):Zrg a b =
 (if (cop .eql a 1) then
 if (cop .geq b 6) then
 some ((cop .leq b 40))
 else
 some (false)
 else
 if (cop .eql a 2) then
 if (cop .geq b 12) then
 some ((cop .leq b 40))
 else
 some (false)
 else
 if (cop .geq a 3) then
 if (cop .leq a 6) then
 (Zss a).bind fun c=>
 some ((cop .eql b c))
 else
 some (false)
 else
 some (false)):=by kernel_rfl
noncomputable def ZoS:Fn:=⟨23,[4],[],[],0,[],[],Tryz.f144,[.c (.int .i64),.c (.int .i64)],[.c (.bool)],[]⟩
theorem Zo9:ZoS.S.Ok Tryz.prog 144:=ZoS.ok Tryz.func144 (by kernel_rfl) trivial
noncomputable def ZrO (a b:Int):Option (Bool):=ZoS.S.g [.i a,.i b]
theorem Zni (b a:Int):ZrO b a =
 (if (cop .geq a 0) then
 if (cop .eql b 32) then
 if (cop .leq a 1) then
 some (true)
 else
 if (cop .eql b 39) then
 some ((cop .leq a 2))
 else
 some (false)
 else
 if (cop .eql b 39) then
 some ((cop .leq a 2))
 else
 some (false)
 else
 some (false)):=by kernel_rfl
noncomputable def Zou:Fn:=⟨64,[2],[],[],0,[],[],Tryz.f142,[.agg hs22],[.c (.bool)],[(143,Zo3.S),(140,Zqy.S),(188,Zno.S),(144,ZoS.S)]⟩
theorem Znx:Zou.S.Ok Tryz.prog 142:=Zou.ok Tryz.func142 (by kernel_rfl) ⟨ZoZ,⟨ZqN,⟨Zlb,⟨Zo9,trivial⟩⟩⟩⟩
noncomputable def ZqY (a c d e f h:Int) (j:Bool):Option (Bool):=Zou.S.g [.i a,.i c,.i d,.i e,.i f,.i h,.b j]
theorem ZnU (a g f e c d:Int) (b:Bool):ZqY a g f e c d b =
 ((Zrg a f).bind fun i=>
 if (!i) then
 some (false)
 else
 (ZkN a g f e c d b).bind fun h=>
 (Zmw h.1 h.2).bind fun j=>
 if (!j) then
 some (false)
 else
 if (cop .lss e 0) then
 some (false)
 else
 if (cop .gtr e 7) then
 some (false)
 else
 if (cop .eql a 3) then
 (ZrO c d).bind fun k=>
 if (!k) then
 some (false)
 else
 if (cop .neq a 3) then
 if (cop .neq c 0) then
 some (false)
 else
 if (cop .neq d 0) then
 some (false)
 else
 if (!b) then
 some (true)
 else
 if (cop .eql a 1) then
 some (true)
 else
 some ((cop .eql a 2))
 else
 if (!b) then
 some (true)
 else
 if (cop .eql a 1) then
 some (true)
 else
 some ((cop .eql a 2))
 else
 if (cop .neq a 3) then
 if (cop .neq c 0) then
 some (false)
 else
 if (cop .neq d 0) then
 some (false)
 else
 if (!b) then
 some (true)
 else
 if (cop .eql a 1) then
 some (true)
 else
 some ((cop .eql a 2))
 else
 if (!b) then
 some (true)
 else
 if (cop .eql a 1) then
 some (true)
 else
 some ((cop .eql a 2))):=by kernel_rfl
noncomputable def F82:Fn:=⟨136,[14,15],[(16,[(1,.c (.int .i64)),(2,.c (.int .i64)),(3,.c (.int .i64)),(4,.c (.int .i64)),(5,.c (.int .i64)),(6,.c (.int .i64)),(7,.box hs22),(16,.c (.bool)),(17,.c (.int .i64)),(19,.c (.own false 36)),(20,.c (.int .i64))])],[],0,[],[],Tryz.f82,[.agg hs22,.c (.int .i64),.c (.int .i64),.c (.int .i64),.c (.int .i64),.c (.int .i64),.c (.int .i64)],[.c (.slice 7),.c (.int .i64)],[(142,Zou.S),(143,Zo3.S),(144,ZoS.S)]⟩
theorem Zvz:F82.S.Ok Tryz.prog 82:=F82.ok Tryz.func82 (by kernel_rfl) ⟨Znx,⟨ZoZ,⟨Zo9,trivial⟩⟩⟩
noncomputable def g82 (a c d e f h:Int) (j:Bool) (k l m n o p:Int):Option (LL×Int):=F82.S.g [.i a,.i c,.i d,.i e,.i f,.i h,.b j,.i k,.i l,.i m,.i n,.i o,.i p]
noncomputable def KR (k:Nat) (a c d e f g h j m n o p:Int) (q r:Bool) (s:Int) (t:LL) (u:Int):Option (LL×Int):=F82.lp [0,1,1,1,0,1,0,0,1,1,1,1,0,0,1,3,1,1,1,0,1,0] 0 r0 k [.i a,.i c,.i d,.i e,.i f,.i g,.i h,.i j,.i m,.i n,.i o,.i p,.b q,.b r,.i s,.l t,.i u]
theorem ZgB (k:Nat) (b c j l d m o e p f q r:Int) (g n:Bool) (h:Int) (i:LL) (a:Int):KR (k+1) b c j l d m o e p f q r g n h i a =
 (if (cop .lss a m) then
 if n then
 ZA (Jb i (E0++[[AV.val (.int .i64 b),AV.val (.int .i64 (iop .add .i64 (iop .add .i64 e d) (iop .mul .i64 a h))),AV.val (.int .i64 c),AV.val (.int .i64 f),AV.val (.int .i64 l),AV.val (.int .i64 j),AV.val (.bool g)]]) 56)<|
 KR k b c j l d m o e p f q r g n h (i++(E0++[[AV.val (.int .i64 b),AV.val (.int .i64 (iop .add .i64 (iop .add .i64 e d) (iop .mul .i64 a h))),AV.val (.int .i64 c),AV.val (.int .i64 f),AV.val (.int .i64 l),AV.val (.int .i64 j),AV.val (.bool g)]])) (iop .add .i64 a 1)
 else
 ZA (Jb i (E0++[[AV.val (.int .i64 b),AV.val (.int .i64 (iop .add .i64 (iop .add .i64 e d) (iop .mul .i64 a h))),AV.val (.int .i64 c),AV.val (.int .i64 f),AV.val (.int .i64 0),AV.val (.int .i64 0),AV.val (.bool g)]]) 56)<|
 KR k b c j l d m o e p f q r g n h (i++(E0++[[AV.val (.int .i64 b),AV.val (.int .i64 (iop .add .i64 (iop .add .i64 e d) (iop .mul .i64 a h))),AV.val (.int .i64 c),AV.val (.int .i64 f),AV.val (.int .i64 0),AV.val (.int .i64 0),AV.val (.bool g)]])) (iop .add .i64 a 1)
 else
 some (i,0)):=by kernel_rfl
theorem ZqP (g i b h j k:Int) (f:Bool) (c a l m d e:Int):g82 g i b h j k f c a l m d e =
 ((ZqY g i b h j k f).bind fun n=>
 if (!n) then
 some (E0,5)
 else
 if (cop .neq g 1) then
 some (E0,5)
 else
 if (cop .eql (iop .and .i64 h 2) 0) then
 some (E0,8)
 else
 (Zrg c a).bind fun o=>
 if (!o) then
 some (E0,1)
 else
 if (cop .eql c 3) then
 (ZrO m l).bind fun p=>
 if (!p) then
 some (E0,1)
 else
 if (cop .lss e 1) then
 some (E0,1)
 else
 if (cop .gtr e 8) then
 some (E0,1)
 else
 if (cop .lss d 0) then
 some (E0,1)
 else
 if f then
 if (cop .neq c 1) then
 if (cop .neq c 2) then
 some (E0,5)
 else
 ZA ((0:Int)≤(IntKind.wrap .u64 a))<|
 ZA ((0:Int)≤(IntKind.wrap .u64 b))<|
 ZA (((iop .shl .i64 1 (IntKind.wrap .u64 a)):Int)≠0)<|
 if (cop .neq (iop .rem .i64 d (iop .shl .i64 1 (IntKind.wrap .u64 a))) 0) then
 some (E0,6)
 else
 if (cop .gtr d (iop .shl .i64 1 (IntKind.wrap .u64 b))) then
 some (E0,6)
 else
 if (cop .gtr (iop .mul .i64 e (iop .shl .i64 1 (IntKind.wrap .u64 a))) (iop .sub .i64 (iop .shl .i64 1 (IntKind.wrap .u64 b)) d)) then
 some (E0,6)
 else
 if (cop .eql c 1) then
 if (cop .geq a b) then
 some (E0,6)
 else
 KR Jn c a l m d e g i b h j k f (cop .eql c 3) (iop .shl .i64 1 (IntKind.wrap .u64 a)) E0 0
 else
 KR Jn c a l m d e g i b h j k f (cop .eql c 3) (iop .shl .i64 1 (IntKind.wrap .u64 a)) E0 0
 else
 ZA ((0:Int)≤(IntKind.wrap .u64 a))<|
 ZA ((0:Int)≤(IntKind.wrap .u64 b))<|
 ZA (((iop .shl .i64 1 (IntKind.wrap .u64 a)):Int)≠0)<|
 if (cop .neq (iop .rem .i64 d (iop .shl .i64 1 (IntKind.wrap .u64 a))) 0) then
 some (E0,6)
 else
 if (cop .gtr d (iop .shl .i64 1 (IntKind.wrap .u64 b))) then
 some (E0,6)
 else
 if (cop .gtr (iop .mul .i64 e (iop .shl .i64 1 (IntKind.wrap .u64 a))) (iop .sub .i64 (iop .shl .i64 1 (IntKind.wrap .u64 b)) d)) then
 some (E0,6)
 else
 if (cop .eql c 1) then
 if (cop .geq a b) then
 some (E0,6)
 else
 KR Jn c a l m d e g i b h j k f (cop .eql c 3) (iop .shl .i64 1 (IntKind.wrap .u64 a)) E0 0
 else
 KR Jn c a l m d e g i b h j k f (cop .eql c 3) (iop .shl .i64 1 (IntKind.wrap .u64 a)) E0 0
 else
 ZA ((0:Int)≤(IntKind.wrap .u64 a))<|
 ZA ((0:Int)≤(IntKind.wrap .u64 b))<|
 ZA (((iop .shl .i64 1 (IntKind.wrap .u64 a)):Int)≠0)<|
 if (cop .neq (iop .rem .i64 d (iop .shl .i64 1 (IntKind.wrap .u64 a))) 0) then
 some (E0,6)
 else
 if (cop .gtr d (iop .shl .i64 1 (IntKind.wrap .u64 b))) then
 some (E0,6)
 else
 if (cop .gtr (iop .mul .i64 e (iop .shl .i64 1 (IntKind.wrap .u64 a))) (iop .sub .i64 (iop .shl .i64 1 (IntKind.wrap .u64 b)) d)) then
 some (E0,6)
 else
 if (cop .eql c 1) then
 if (cop .geq a b) then
 some (E0,6)
 else
 KR Jn c a l m d e g i b h j k f (cop .eql c 3) (iop .shl .i64 1 (IntKind.wrap .u64 a)) E0 0
 else
 KR Jn c a l m d e g i b h j k f (cop .eql c 3) (iop .shl .i64 1 (IntKind.wrap .u64 a)) E0 0
 else
 if (cop .lss e 1) then
 some (E0,1)
 else
 if (cop .gtr e 8) then
 some (E0,1)
 else
 if (cop .lss d 0) then
 some (E0,1)
 else
 if f then
 if (cop .neq c 1) then
 if (cop .neq c 2) then
 some (E0,5)
 else
 ZA ((0:Int)≤(IntKind.wrap .u64 a))<|
 ZA ((0:Int)≤(IntKind.wrap .u64 b))<|
 ZA (((iop .shl .i64 1 (IntKind.wrap .u64 a)):Int)≠0)<|
 if (cop .neq (iop .rem .i64 d (iop .shl .i64 1 (IntKind.wrap .u64 a))) 0) then
 some (E0,6)
 else
 if (cop .gtr d (iop .shl .i64 1 (IntKind.wrap .u64 b))) then
 some (E0,6)
 else
 if (cop .gtr (iop .mul .i64 e (iop .shl .i64 1 (IntKind.wrap .u64 a))) (iop .sub .i64 (iop .shl .i64 1 (IntKind.wrap .u64 b)) d)) then
 some (E0,6)
 else
 if (cop .eql c 1) then
 if (cop .geq a b) then
 some (E0,6)
 else
 KR Jn c a l m d e g i b h j k f (cop .eql c 3) (iop .shl .i64 1 (IntKind.wrap .u64 a)) E0 0
 else
 KR Jn c a l m d e g i b h j k f (cop .eql c 3) (iop .shl .i64 1 (IntKind.wrap .u64 a)) E0 0
 else
 ZA ((0:Int)≤(IntKind.wrap .u64 a))<|
 ZA ((0:Int)≤(IntKind.wrap .u64 b))<|
 ZA (((iop .shl .i64 1 (IntKind.wrap .u64 a)):Int)≠0)<|
 if (cop .neq (iop .rem .i64 d (iop .shl .i64 1 (IntKind.wrap .u64 a))) 0) then
 some (E0,6)
 else
 if (cop .gtr d (iop .shl .i64 1 (IntKind.wrap .u64 b))) then
 some (E0,6)
 else
 if (cop .gtr (iop .mul .i64 e (iop .shl .i64 1 (IntKind.wrap .u64 a))) (iop .sub .i64 (iop .shl .i64 1 (IntKind.wrap .u64 b)) d)) then
 some (E0,6)
 else
 if (cop .eql c 1) then
 if (cop .geq a b) then
 some (E0,6)
 else
 KR Jn c a l m d e g i b h j k f (cop .eql c 3) (iop .shl .i64 1 (IntKind.wrap .u64 a)) E0 0
 else
 KR Jn c a l m d e g i b h j k f (cop .eql c 3) (iop .shl .i64 1 (IntKind.wrap .u64 a)) E0 0
 else
 ZA ((0:Int)≤(IntKind.wrap .u64 a))<|
 ZA ((0:Int)≤(IntKind.wrap .u64 b))<|
 ZA (((iop .shl .i64 1 (IntKind.wrap .u64 a)):Int)≠0)<|
 if (cop .neq (iop .rem .i64 d (iop .shl .i64 1 (IntKind.wrap .u64 a))) 0) then
 some (E0,6)
 else
 if (cop .gtr d (iop .shl .i64 1 (IntKind.wrap .u64 b))) then
 some (E0,6)
 else
 if (cop .gtr (iop .mul .i64 e (iop .shl .i64 1 (IntKind.wrap .u64 a))) (iop .sub .i64 (iop .shl .i64 1 (IntKind.wrap .u64 b)) d)) then
 some (E0,6)
 else
 if (cop .eql c 1) then
 if (cop .geq a b) then
 some (E0,6)
 else
 KR Jn c a l m d e g i b h j k f (cop .eql c 3) (iop .shl .i64 1 (IntKind.wrap .u64 a)) E0 0
 else
 KR Jn c a l m d e g i b h j k f (cop .eql c 3) (iop .shl .i64 1 (IntKind.wrap .u64 a)) E0 0):=by kernel_rfl
noncomputable def Zps:Fn:=⟨31,[2],[],[],0,[],[],Tryz.f145,[.agg [.int .i64,.int .i64,.int .i64]],[.c (.bool)],[]⟩
theorem Zqr:Zps.S.Ok Tryz.prog 145:=Zps.ok Tryz.func145 (by kernel_rfl) trivial
noncomputable def ZqJ (a b c:Int):Option (Bool):=Zps.S.g [.i a,.i b,.i c]
theorem ZmX (a b c:Int):ZqJ a b c =
 (if (cop .geq a 0) then
 if (cop .lss a 32) then
 if (cop .geq b 1) then
 if (cop .leq b 1073741824) then
 if (cop .geq c 0) then
 some ((cop .lss c 8))
 else
 some (false)
 else
 some (false)
 else
 some (false)
 else
 some (false)
 else
 some (false)):=by kernel_rfl
noncomputable def F16:Fn:=⟨18,[4],[(2,[(0,.c (.slice 3)),(3,.box [.int .i64,.int .i64,.int .i64]),(5,.c (.int .i64))])],[],0,[],[],Tryz.f16,[.c (.slice 3),.agg [.int .i64,.int .i64,.int .i64]],[.c (.bool)],[]⟩
theorem ZoN:F16.S.Ok Tryz.prog 16:=F16.ok Tryz.func16 (by kernel_rfl) trivial
noncomputable def g16 (a:LL) (b c d:Int):Option (Bool):=F16.S.g [.l a,.i b,.i c,.i d]
noncomputable def Zkf (k:Nat) (a:LL) (b c d e:Int):Option (Bool):=F16.lp [0] 0 r0 k [.l a,.i b,.i c,.i d,.i e]
theorem Zc8 (k:Nat) (a:LL) (c d e b:Int):Zkf (k+1) a c d e b =
 (if (cop .lss b (List.length a:Int)) then
 Zt a b [.int .i64,.int .i64,.int .i64] fun (f:Int×Int×Int)=>
 if ((cop .eql f.1 c)&&((cop .eql f.2.1 d)&&((cop .eql f.2.2 e)&&true))) then
 some (true)
 else
 Zkf k a c d e (iop .add .i64 b 1)
 else
 some (false)):=by kernel_rfl
theorem Zmk (a:LL) (b c d:Int):g16 a b c d =
 (Zkf Jn a b c d 0):=by kernel_rfl
noncomputable def ZpV:Fn:=⟨53,[2],[(4,[(1,.box hs19),(3,.c (.int .i64))])],[],0,[],[],Tryz.f120,[.agg hs19],[.c (.bool)],[(145,Zps.S),(142,Zou.S),(16,F16.S)]⟩
theorem Zr4:ZpV.S.Ok Tryz.prog 120:=ZpV.ok Tryz.func120 (by kernel_rfl) ⟨Zqr,⟨Znx,⟨ZoN,trivial⟩⟩⟩
noncomputable def Zr7 (a c d:Int) (e:LL) (f h j k m n:Int) (o:Bool):Option (Bool):=ZpV.S.g [.i a,.i c,.i d,.l e,.i f,.i h,.i j,.i k,.i m,.i n,.b o]
noncomputable def ZgT (k:Nat) (a c d:Int) (e:LL) (f g h j m n:Int) (o:Bool) (p:Int):Option (Bool):=ZpV.lp [0,1,0,1,1,0,1,0] 0 r0 k [.i a,.i c,.i d,.l e,.i f,.i g,.i h,.i j,.i m,.i n,.b o,.i p]
theorem Zej (k:Nat) (e f g:Int) (b:LL) (h i j l m n:Int) (o:Bool) (a:Int):ZgT (k+1) e f g b h i j l m n o a =
 (if (cop .lss a (List.length b:Int)) then
 Zt b a [.int .i64,.int .i64,.int .i64] fun (c:Int×Int×Int)=>
 (ZqJ c.1 c.2.1 c.2.2).bind fun p=>
 if (!p) then
 some (false)
 else
 ZA ((0:Int)≤a)<|
 ZA ((a:Int)≤(List.length b:Int))<|
 Zt b a [.int .i64,.int .i64,.int .i64] fun (d:Int×Int×Int)=>
 (g16 (List.take (Int.toNat a) b) d.1 d.2.1 d.2.2).bind fun q=>
 if q then
 some (false)
 else
 ZgT k e f g b h i j l m n o (iop .add .i64 a 1)
 else
 some (true)):=by kernel_rfl
theorem Znp (a b c:Int) (d:LL) (e f g h i j:Int) (k:Bool):Zr7 a b c d e f g h i j k =
 ((ZqJ a b c).bind fun l=>
 if (!l) then
 some (false)
 else
 (ZqY e f g h i j k).bind fun m=>
 if (!m) then
 some (false)
 else
 if (cop .gtr (List.length d:Int) 8) then
 some (false)
 else
 (g16 d a b c).bind fun n=>
 if n then
 some (false)
 else
 ZgT Jn a b c d e f g h i j k 0):=by kernel_rfl
noncomputable def F83:Fn:=⟨49,[6,7],[],[],0,[],[],Tryz.f83,[.agg hs19,.agg [.int .i64,.int .i64,.int .i64],.agg hs22],[.agg hs19,.c (.int .i64)],[(120,ZpV.S),(145,Zps.S),(142,Zou.S),(16,F16.S),(39,F39.S)]⟩
theorem ZvI:F83.S.Ok Tryz.prog 83:=F83.ok Tryz.func83 (by kernel_rfl) ⟨Zr4,⟨Zqr,⟨Znx,⟨ZoN,⟨ZuH,trivial⟩⟩⟩⟩⟩
noncomputable def g83 (a c d:Int) (e:LL) (f h j k m n:Int) (o:Bool) (p q r s t u v w x:Int) (y:Bool):Option (Qt23):=F83.S.g [.i a,.i c,.i d,.l e,.i f,.i h,.i j,.i k,.i m,.i n,.b o,.i p,.i q,.i r,.i s,.i t,.i u,.i v,.i w,.i x,.b y]
theorem Zpl (a b c:Int) (d:LL) (o p q r s t:Int) (u:Bool) (e f g h i j k l m:Int) (n:Bool):g83 a b c d o p q r s t u e f g h i j k l m n =
 ((Zr7 a b c d o p q r s t u).bind fun w=>
 if (!w) then
 some (0,0,0,E0,0,0,0,0,0,0,false,1)
 else
 (ZqJ e f g).bind fun x=>
 if (!x) then
 some (0,0,0,E0,0,0,0,0,0,0,false,1)
 else
 (ZqY h i j k l m n).bind fun y=>
 if (!y) then
 some (0,0,0,E0,0,0,0,0,0,0,false,1)
 else
 if ((cop .eql e a)&&((cop .eql f b)&&((cop .eql g c)&&true))) then
 some (0,0,0,E0,0,0,0,0,0,0,false,1)
 else
 (g16 d e f g).bind fun z=>
 if z then
 some (0,0,0,E0,0,0,0,0,0,0,false,1)
 else
 if (cop .eql (List.length d:Int) 8) then
 some (0,0,0,E0,0,0,0,0,0,0,false,9)
 else
 (g39 d).bind fun v=>
 ZA (Jb v (E0++[[AV.val (.int .i64 a),AV.val (.int .i64 b),AV.val (.int .i64 c)]]) 24)<|
 some (e,f,g,(v++(E0++[[AV.val (.int .i64 a),AV.val (.int .i64 b),AV.val (.int .i64 c)]])),h,i,j,k,l,m,n,0)):=by kernel_rfl
noncomputable def F37:Fn:=⟨146,[6],[(18,[(0,.c (.slice 13)),(2,.c (.int .i64)),(7,.c (.int .i64)),(8,.c (.int .i64)),(10,.box hs19),(11,.c (.slice 7)),(16,.c (.int .i64))])],[],0,[],[],Tryz.f37,[.c (.slice 13),.agg hs20,.c (.int .i64)],[.c (.slice 13)],[(12,F12.S),(78,F78.S),(79,F79.S),(80,F80.S),(81,F81.S),(82,F82.S),(83,F83.S)]⟩
theorem Zvd:F37.S.Ok Tryz.prog 37:=F37.ok Tryz.func37 (by kernel_rfl) ⟨Zuj,⟨Zv3,⟨Zvi,⟨ZvF,⟨ZvM,⟨Zvz,⟨ZvI,trivial⟩⟩⟩⟩⟩⟩⟩
noncomputable def g37 (a:LL) (c:Bool) (d e f h j k m n:Int) (o:Bool) (p:Int):Option (LL):=F37.S.g [.l a,.b c,.i d,.i e,.i f,.i h,.i j,.i k,.i m,.i n,.b o,.i p]
noncomputable def ZeF (k:Nat) (a:LL) (c d e f g h:Int) (j:LL) (m n o p q r:Int) (s:Bool) (t:LL) (u:Int):Option (LL):=F37.lp [2,1,1,5,8,1,0,1,0] 0 r0 k [.l a,.i c,.i d,.i e,.i f,.i g,.i h,.l j,.i m,.i n,.i o,.i p,.i q,.i r,.b s,.l t,.i u]
theorem Zg2 (k:Nat) (d:LL) (g e h i j l:Int) (m:LL) (n o p q r s:Int) (t:Bool) (f:LL) (c:Int):ZeF (k+1) d g e h i j l m n o p q r s t f c =
 (if (cop .lss c (List.length f:Int)) then
 Zt f c hs22 fun (b:Qt26)=>
 (g83 i j l m n o p q r s t e g c b.1 b.2.1 b.2.2.1 b.2.2.2.1 b.2.2.2.2.1 b.2.2.2.2.2.1 b.2.2.2.2.2.2).bind fun a=>
 if (cop .neq a.2.2.2.2.2.2.2.2.2.2.2 0) then
 some (d)
 else
 (g80 d e (iop .add .i64 h c) a.1 a.2.1 a.2.2.1 a.2.2.2.1 a.2.2.2.2.1 a.2.2.2.2.2.1 a.2.2.2.2.2.2.1 a.2.2.2.2.2.2.2.1 a.2.2.2.2.2.2.2.2.1 a.2.2.2.2.2.2.2.2.2.1 a.2.2.2.2.2.2.2.2.2.2.1).bind fun u=>
 ZeF k u g e h i j l m n o p q r s t f (iop .add .i64 c 1)
 else
 some (d)):=by kernel_rfl
theorem Zp1 (c:LL) (o:Bool) (p q r s g h t j:Int) (u:Bool) (f:Int):g37 c o p q r s g h t j u f =
 ((g12 q 4).bind fun e=>
 (g12 r 8).bind fun i=>
 if o then
 (g78 g h).bind fun b=>
 (g79 c 0 0 0 (E0++[[AV.val (.int .i64 b.1),AV.val (.int .i64 b.2.1),AV.val (.int .i64 b.2.2.1),AV.val (.int .i64 b.2.2.2.1),AV.val (.int .i64 b.2.2.2.2.1),AV.val (.int .i64 b.2.2.2.2.2.1),AV.val (.bool b.2.2.2.2.2.2)]])).bind fun k=>
 if k then
 some (c)
 else
 (g80 c e i e f 0 E0 b.1 b.2.1 b.2.2.1 b.2.2.2.1 b.2.2.2.2.1 b.2.2.2.2.2.1 b.2.2.2.2.2.2).bind fun l=>
 some (l)
 else
 if (cop .eql (List.length c:Int) 0) then
 (g78 g h).bind fun b=>
 (g79 c 0 0 0 (E0++[[AV.val (.int .i64 b.1),AV.val (.int .i64 b.2.1),AV.val (.int .i64 b.2.2.1),AV.val (.int .i64 b.2.2.2.1),AV.val (.int .i64 b.2.2.2.2.1),AV.val (.int .i64 b.2.2.2.2.2.1),AV.val (.bool b.2.2.2.2.2.2)]])).bind fun k=>
 if k then
 some (c)
 else
 (g80 c e i e f 0 E0 b.1 b.2.1 b.2.2.1 b.2.2.2.1 b.2.2.2.2.1 b.2.2.2.2.2.1 b.2.2.2.2.2.2).bind fun l=>
 some (l)
 else
 (g12 p (List.length c:Int)).bind fun b=>
 Zt c b hs18 fun (a:Qt21)=>
 (g12 j 8).bind fun w=>
 (g81 a.2.2.2.2.2.2.1 a.2.2.2.2.2.2.2.1 a.2.2.2.2.2.2.2.2.1 a.2.2.2.2.2.2.2.2.2.1 a.2.2.2.2.2.2.2.2.2.2.1 a.2.2.2.2.2.2.2.2.2.2.2.1 (d4 (d8 a)) w).bind fun d=>
 if (!u) then
 (g12 s 6).bind fun v=>
 (g12 h 10).bind fun x=>
 Zt ((((((E0++[[AV.val (.int .i64 (iop .add .i64 6 x))]])++[[AV.val (.int .i64 12)]])++[[AV.val (.int .i64 12)]])++[[AV.val (.int .i64 6)]])++[[AV.val (.int .i64 10)]])++[[AV.val (.int .i64 16)]]) (iop .sub .i64 (iop .add .i64 1 v) 1) [.int .i64] fun (m:Int)=>
 (g12 j 2).bind fun y=>
 (g12 g 8).bind fun z=>
 ZA ((0:Int)≤(IntKind.wrap .u64 m))<|
 (g12 t 3).bind fun A=>
 (g82 a.2.2.2.2.2.2.1 a.2.2.2.2.2.2.2.1 a.2.2.2.2.2.2.2.2.1 a.2.2.2.2.2.2.2.2.2.1 a.2.2.2.2.2.2.2.2.2.2.1 a.2.2.2.2.2.2.2.2.2.2.2.1 (d4 (d8 a)) (iop .add .i64 1 v) m y 32 (iop .shl .i64 z (IntKind.wrap .u64 m)) (iop .add .i64 1 A)).bind fun n=>
 if (cop .neq n.2 0) then
 some (c)
 else
 (g79 c a.2.2.1 a.2.2.2.1 a.2.2.2.2.1 n.1).bind fun C=>
 if C then
 some (c)
 else
 ZeF Jn c f e i a.2.2.1 a.2.2.2.1 a.2.2.2.2.1 a.2.2.2.2.2.1 a.2.2.2.2.2.2.1 a.2.2.2.2.2.2.2.1 a.2.2.2.2.2.2.2.2.1 a.2.2.2.2.2.2.2.2.2.1 a.2.2.2.2.2.2.2.2.2.2.1 a.2.2.2.2.2.2.2.2.2.2.2.1 (d4 (d8 a)) n.1 0
 else
 ZeF Jn c f e i a.2.2.1 a.2.2.2.1 a.2.2.2.2.1 a.2.2.2.2.2.1 a.2.2.2.2.2.2.1 a.2.2.2.2.2.2.2.1 a.2.2.2.2.2.2.2.2.1 a.2.2.2.2.2.2.2.2.2.1 a.2.2.2.2.2.2.2.2.2.2.1 a.2.2.2.2.2.2.2.2.2.2.2.1 (d4 (d8 a)) (E0++[[AV.val (.int .i64 d.1),AV.val (.int .i64 d.2.1),AV.val (.int .i64 d.2.2.1),AV.val (.int .i64 d.2.2.2.1),AV.val (.int .i64 d.2.2.2.2.1),AV.val (.int .i64 d.2.2.2.2.2.1),AV.val (.bool d.2.2.2.2.2.2)]]) 0):=by kernel_rfl
noncomputable def F7:Fn:=⟨29,[2],[(3,[(0,.c (.slice 10)),(3,.c (.slice 13)),(4,.c (.int .i64))])],[],0,[],[],Tryz.f7,[.c (.slice 10)],[.c (.slice 13)],[(37,F37.S)]⟩
theorem ok7:F7.S.Ok Tryz.prog 7:=F7.ok Tryz.func7 (by kernel_rfl) ⟨Zvd,trivial⟩
noncomputable def g7 (a:LL):Option (LL):=F7.S.g [.l a]
noncomputable def Zro (k:Nat) (a b:LL) (c:Int):Option (LL):=F7.lp [0] 0 r0 k [.l a,.l b,.i c]
theorem Ziv (k:Nat) (d b:LL) (c:Int):Zro (k+1) d b c =
 (if (cop .lss c (List.length d:Int)) then
 if (cop .lss c 40) then
 if (cop .lss (List.length b:Int) 24) then
 Zt d c hs20 fun (a:Bool×Int×Int×Int×Int×Int×Int×Int×Int×Bool)=>
 (g37 b a.1 a.2.1 a.2.2.1 a.2.2.2.1 a.2.2.2.2.1 a.2.2.2.2.2.1 a.2.2.2.2.2.2.1 a.2.2.2.2.2.2.2.1 a.2.2.2.2.2.2.2.2.1 a.2.2.2.2.2.2.2.2.2 (iop .add .i64 c 1)).bind fun e=>
 Zro k d e (iop .add .i64 c 1)
 else
 some (b)
 else
 some (b)
 else
 some (b)):=by kernel_rfl
theorem Ztk (a:LL):g7 a =
 (Zro Jn a E0 0):=by kernel_rfl
noncomputable def F15:Fn:=⟨31,[4],[(3,[(0,.c (.slice 13)),(3,.box [.int .i64,.int .i64,.int .i64]),(5,.c (.own false 33)),(6,.c (.int .i64))])],[],0,[],[],Tryz.f15,[.c (.slice 13),.agg [.int .i64,.int .i64,.int .i64]],[.c (.own false 33)],[(16,F16.S)]⟩
theorem ZvP:F15.S.Ok Tryz.prog 15:=F15.ok Tryz.func15 (by kernel_rfl) ⟨ZoN,trivial⟩
noncomputable def g15 (a:LL) (b c d:Int):Option (LL):=F15.S.g [.l a,.i b,.i c,.i d]
noncomputable def Zkj (k:Nat) (a:LL) (b c d:Int) (e:LL) (f:Int):Option (LL):=F15.lp [0] 0 r0 k [.l a,.i b,.i c,.i d,.l e,.i f]
theorem ZlW (k:Nat) (a:LL) (e f g:Int) (d:LL) (b:Int):Zkj (k+1) a e f g d b =
 (if (cop .lss b (List.length a:Int)) then
 Zt a b hs18 fun (h:Qt21)=>
 (g16 h.2.2.2.2.2.1 e f g).bind fun i=>
 if i then
 Zt a b hs18 fun (c:Qt21)=>
 ZA (Jb d (E0++[[AV.val (.int .i64 c.2.2.1),AV.val (.int .i64 c.2.2.2.1),AV.val (.int .i64 c.2.2.2.2.1)]]) 24)<|
 Zkj k a e f g (d++(E0++[[AV.val (.int .i64 c.2.2.1),AV.val (.int .i64 c.2.2.2.1),AV.val (.int .i64 c.2.2.2.2.1)]])) (iop .add .i64 b 1)
 else
 Zkj k a e f g d (iop .add .i64 b 1)
 else
 some (d)):=by kernel_rfl
theorem ZoX (a:LL) (b c d:Int):g15 a b c d =
 (Zkj Jn a b c d E0 0):=by kernel_rfl
noncomputable def F17:Fn:=⟨44,[4],[(2,[(0,.c (.slice 1)),(1,.c (.int .i64)),(5,.c (.int .i64))])],[],0,[],[],Tryz.f17,[.c (.slice 1),.c (.int .i64)],[.c (.slice 1)],[]⟩
theorem Zu3:F17.S.Ok Tryz.prog 17:=F17.ok Tryz.func17 (by kernel_rfl) trivial
noncomputable def g17 (a:LL) (b:Int):Option (LL):=F17.S.g [.l a,.i b]
noncomputable def Zl4 (k:Nat) (a:LL) (b c:Int):Option (LL):=F17.lp [0] 0 r0 k [.l a,.i b,.i c]
theorem ZlT (k:Nat) (b:LL) (c a:Int):Zl4 (k+1) b c a =
 (if (cop .lss a (List.length b:Int)) then
 Zt b a [.int .i64] fun (d:Int)=>
 if (cop .lss d c) then
 Zl4 k b c (iop .add .i64 a 1)
 else
 if (cop .lss a (List.length b:Int)) then
 Zt b a [.int .i64] fun (e:Int)=>
 if (cop .eql e c) then
 some (b)
 else
 ZA ((0:Int)≤a)<|
 ZA ((a:Int)≤(List.length b:Int))<|
 ZA (Jb E0 (List.take (Int.toNat a) b) 8)<|
 ZA (Jb (List.take (Int.toNat a) b) (E0++[[AV.val (.int .i64 c)]]) 8)<|
 ZA ((0:Int)≤a)<|
 ZA ((a:Int)≤(List.length b:Int))<|
 ZA (Jb ((List.take (Int.toNat a) b)++(E0++[[AV.val (.int .i64 c)]])) (List.drop (Int.toNat a) b) 8)<|
 some ((((List.take (Int.toNat a) b)++(E0++[[AV.val (.int .i64 c)]]))++(List.drop (Int.toNat a) b)))
 else
 ZA ((0:Int)≤a)<|
 ZA ((a:Int)≤(List.length b:Int))<|
 ZA (Jb E0 (List.take (Int.toNat a) b) 8)<|
 ZA (Jb (List.take (Int.toNat a) b) (E0++[[AV.val (.int .i64 c)]]) 8)<|
 ZA ((0:Int)≤a)<|
 ZA ((a:Int)≤(List.length b:Int))<|
 ZA (Jb ((List.take (Int.toNat a) b)++(E0++[[AV.val (.int .i64 c)]])) (List.drop (Int.toNat a) b) 8)<|
 some ((((List.take (Int.toNat a) b)++(E0++[[AV.val (.int .i64 c)]]))++(List.drop (Int.toNat a) b)))
 else
 if (cop .lss a (List.length b:Int)) then
 Zt b a [.int .i64] fun (d:Int)=>
 if (cop .eql d c) then
 some (b)
 else
 ZA ((0:Int)≤a)<|
 ZA ((a:Int)≤(List.length b:Int))<|
 ZA (Jb E0 (List.take (Int.toNat a) b) 8)<|
 ZA (Jb (List.take (Int.toNat a) b) (E0++[[AV.val (.int .i64 c)]]) 8)<|
 ZA ((0:Int)≤a)<|
 ZA ((a:Int)≤(List.length b:Int))<|
 ZA (Jb ((List.take (Int.toNat a) b)++(E0++[[AV.val (.int .i64 c)]])) (List.drop (Int.toNat a) b) 8)<|
 some ((((List.take (Int.toNat a) b)++(E0++[[AV.val (.int .i64 c)]]))++(List.drop (Int.toNat a) b)))
 else
 ZA ((0:Int)≤a)<|
 ZA ((a:Int)≤(List.length b:Int))<|
 ZA (Jb E0 (List.take (Int.toNat a) b) 8)<|
 ZA (Jb (List.take (Int.toNat a) b) (E0++[[AV.val (.int .i64 c)]]) 8)<|
 ZA ((0:Int)≤a)<|
 ZA ((a:Int)≤(List.length b:Int))<|
 ZA (Jb ((List.take (Int.toNat a) b)++(E0++[[AV.val (.int .i64 c)]])) (List.drop (Int.toNat a) b) 8)<|
 some ((((List.take (Int.toNat a) b)++(E0++[[AV.val (.int .i64 c)]]))++(List.drop (Int.toNat a) b)))):=by kernel_rfl
theorem Zo7 (a:LL) (b:Int):g17 a b =
 (Zl4 Jn a b 0):=by kernel_rfl
noncomputable def F19:Fn:=⟨31,[4],[(3,[(0,.c (.slice 13)),(3,.box [.int .i64,.int .i64,.int .i64]),(5,.c (.own false 40)),(6,.c (.int .i64))])],[],0,[],[],Tryz.f19,[.c (.slice 13),.agg [.int .i64,.int .i64,.int .i64]],[.c (.own false 40)],[(16,F16.S),(11,F11.S)]⟩
theorem Zu0:F19.S.Ok Tryz.prog 19:=F19.ok Tryz.func19 (by kernel_rfl) ⟨ZoN,⟨Zs3,trivial⟩⟩
noncomputable def g19 (a:LL) (b c d:Int):Option (LL):=F19.S.g [.l a,.i b,.i c,.i d]
noncomputable def ZiD (k:Nat) (a:LL) (b c d:Int) (e:LL) (f:Int):Option (LL):=F19.lp [0] 0 r0 k [.l a,.i b,.i c,.i d,.l e,.i f]
theorem ZlE (k:Nat) (b:LL) (e f g:Int) (d:LL) (c:Int):ZiD (k+1) b e f g d c =
 (if (cop .lss c (List.length b:Int)) then
 Zt b c hs18 fun (h:Qt21)=>
 (g16 h.2.2.2.2.2.1 e f g).bind fun i=>
 if (!i) then
 Zt b c hs18 fun (a:Qt21)=>
 ZA (Jb d (E0++[[AV.val (.int .i64 a.1),AV.val (.int .i64 a.2.1),AV.val (.int .i64 a.2.2.1),AV.val (.int .i64 a.2.2.2.1),AV.val (.int .i64 a.2.2.2.2.1),AV.slice false 3 a.2.2.2.2.2.1,AV.val (.int .i64 a.2.2.2.2.2.2.1),AV.val (.int .i64 a.2.2.2.2.2.2.2.1),AV.val (.int .i64 a.2.2.2.2.2.2.2.2.1),AV.val (.int .i64 a.2.2.2.2.2.2.2.2.2.1),AV.val (.int .i64 a.2.2.2.2.2.2.2.2.2.2.1),AV.val (.int .i64 a.2.2.2.2.2.2.2.2.2.2.2.1),AV.val (.bool (d4 (d8 a)))]]) 120)<|
 ZiD k b e f g (d++(E0++[[AV.val (.int .i64 a.1),AV.val (.int .i64 a.2.1),AV.val (.int .i64 a.2.2.1),AV.val (.int .i64 a.2.2.2.1),AV.val (.int .i64 a.2.2.2.2.1),AV.slice false 3 a.2.2.2.2.2.1,AV.val (.int .i64 a.2.2.2.2.2.2.1),AV.val (.int .i64 a.2.2.2.2.2.2.2.1),AV.val (.int .i64 a.2.2.2.2.2.2.2.2.1),AV.val (.int .i64 a.2.2.2.2.2.2.2.2.2.1),AV.val (.int .i64 a.2.2.2.2.2.2.2.2.2.2.1),AV.val (.int .i64 a.2.2.2.2.2.2.2.2.2.2.2.1),AV.val (.bool (d4 (d8 a)))]])) (iop .add .i64 c 1)
 else
 ZiD k b e f g d (iop .add .i64 c 1)
 else
 (g11 d).bind fun h=>
 some (h)):=by kernel_rfl
theorem Zqi (a:LL) (b c d:Int):g19 a b c d =
 (ZiD Jn a b c d E0 0):=by kernel_rfl
noncomputable def ZqF:Fn:=⟨26,[4],[(4,[(0,.c (.slice 3)),(1,.c (.slice 3)),(5,.c (.int .i64))])],[],0,[],[],Tryz.f107,[.c (.slice 3),.c (.slice 3)],[.c (.bool)],[]⟩
theorem Zr2:ZqF.S.Ok Tryz.prog 107:=ZqF.ok Tryz.func107 (by kernel_rfl) trivial
noncomputable def Zsn (a b:LL):Option (Bool):=ZqF.S.g [.l a,.l b]
noncomputable def Zhb (k:Nat) (a b:LL) (c:Int):Option (Bool):=ZqF.lp [1,0] 0 r0 k [.l a,.l b,.i c]
theorem ZeE (k:Nat) (b c:LL) (a:Int):Zhb (k+1) b c a =
 (if (cop .lss a (List.length b:Int)) then
 Zt b a [.int .i64,.int .i64,.int .i64] fun (d:Int×Int×Int)=>
 Zt c a [.int .i64,.int .i64,.int .i64] fun (e:Int×Int×Int)=>
 if (!((cop .eql d.1 e.1)&&((cop .eql d.2.1 e.2.1)&&((cop .eql d.2.2 e.2.2)&&true)))) then
 some (false)
 else
 Zhb k b c (iop .add .i64 a 1)
 else
 some (true)):=by kernel_rfl
theorem ZmK (a b:LL):Zsn a b =
 (if (cop .neq (List.length a:Int) (List.length b:Int)) then
 some (false)
 else
 Zhb Jn a b 0):=by kernel_rfl
noncomputable def F50:Fn:=⟨24,[4],[],[],0,[],[],Tryz.f50,[.agg hs19,.agg hs19],[.c (.bool)],[(107,ZqF.S)]⟩
theorem Zvy:F50.S.Ok Tryz.prog 50:=F50.ok Tryz.func50 (by kernel_rfl) ⟨Zr2,trivial⟩
noncomputable def g50 (a c d:Int) (e:LL) (f h j k m n:Int) (o:Bool) (p q r:Int) (s:LL) (t u v w x y:Int) (z:Bool):Option (Bool):=F50.S.g [.i a,.i c,.i d,.l e,.i f,.i h,.i j,.i k,.i m,.i n,.b o,.i p,.i q,.i r,.l s,.i t,.i u,.i v,.i w,.i x,.i y,.b z]
theorem ZpF (a b c:Int) (d:LL) (e f g h i j:Int) (k:Bool) (l m n:Int) (o:LL) (p q r s t u:Int) (v:Bool):g50 a b c d e f g h i j k l m n o p q r s t u v =
 (if ((cop .eql a l)&&((cop .eql b m)&&((cop .eql c n)&&true))) then
 if ((cop .eql e p)&&((cop .eql f q)&&((cop .eql g r)&&((cop .eql h s)&&((cop .eql i t)&&((cop .eql j u)&&((k == v)&&true))))))) then
 (Zsn d o).bind fun w=>
 some (w)
 else
 some (false)
 else
 some (false)):=by kernel_rfl
noncomputable def F20:Fn:=⟨55,[4],[(4,[(0,.c (.slice 13)),(1,.c (.slice 13)),(5,.c (.int .i64))])],[],0,[],[],Tryz.f20,[.c (.slice 13),.c (.slice 13)],[.c (.bool)],[(50,F50.S)]⟩
theorem Zv4:F20.S.Ok Tryz.prog 20:=F20.ok Tryz.func20 (by kernel_rfl) ⟨Zvy,trivial⟩
noncomputable def g20 (a b:LL):Option (Bool):=F20.S.g [.l a,.l b]
noncomputable def ZlY (k:Nat) (a b:LL) (c:Int):Option (Bool):=F20.lp [1,0] 0 r0 k [.l a,.l b,.i c]
theorem Zl6 (k:Nat) (d e:LL) (c:Int):ZlY (k+1) d e c =
 (if (cop .lss c (List.length d:Int)) then
 Zt d c hs18 fun (f:Qt21)=>
 Zt e c hs18 fun (g:Qt21)=>
 if (cop .neq f.1 g.1) then
 some (false)
 else
 Zt d c hs18 fun (h:Qt21)=>
 Zt e c hs18 fun (i:Qt21)=>
 if (cop .neq h.2.1 i.2.1) then
 some (false)
 else
 Zt d c hs18 fun (a:Qt21)=>
 Zt e c hs18 fun (b:Qt21)=>
 (g50 a.2.2.1 a.2.2.2.1 a.2.2.2.2.1 a.2.2.2.2.2.1 a.2.2.2.2.2.2.1 a.2.2.2.2.2.2.2.1 a.2.2.2.2.2.2.2.2.1 a.2.2.2.2.2.2.2.2.2.1 a.2.2.2.2.2.2.2.2.2.2.1 a.2.2.2.2.2.2.2.2.2.2.2.1 (d4 (d8 a)) b.2.2.1 b.2.2.2.1 b.2.2.2.2.1 b.2.2.2.2.2.1 b.2.2.2.2.2.2.1 b.2.2.2.2.2.2.2.1 b.2.2.2.2.2.2.2.2.1 b.2.2.2.2.2.2.2.2.2.1 b.2.2.2.2.2.2.2.2.2.2.1 b.2.2.2.2.2.2.2.2.2.2.2.1 (d4 (d8 b))).bind fun j=>
 if (!j) then
 some (false)
 else
 ZlY k d e (iop .add .i64 c 1)
 else
 some (true)):=by kernel_rfl
theorem Zp3 (a b:LL):g20 a b =
 (if (cop .neq (List.length a:Int) (List.length b:Int)) then
 some (false)
 else
 ZlY Jn a b 0):=by kernel_rfl
noncomputable def F3:Fn:=⟨237,[4],[(15,[(5,.c (.slice 13)),(6,.ptr 31 0),(7,.box hs18),(8,.box hs7),(9,.c (.slice 74)),(10,.c (.slice 3)),(11,.c (.slice 1)),(12,.c (.int .i64)),(31,.box hs4)]),(22,[(5,.c (.slice 13)),(6,.ptr 31 0),(7,.box hs18),(8,.box hs7),(9,.c (.slice 74)),(11,.c (.slice 1)),(13,.c (.slice 1)),(14,.c (.slice 1)),(15,.c (.int .i64)),(31,.box hs4)]),(29,[(5,.c (.slice 13)),(6,.ptr 31 0),(7,.box hs18),(8,.box hs7),(9,.c (.slice 74)),(11,.c (.slice 1)),(13,.c (.slice 1)),(14,.c (.slice 1)),(15,.c (.int .i64)),(16,.c (.slice 74)),(17,.c (.int .i64)),(18,.c (.int .i64)),(31,.box hs4)])],[],0,[],[],Tryz.f3,[.c (.slice 10),.c (.int .i64)],[.c (.bool)],[(7,F7.S),(8,F8.S),(10,F10.S),(11,F11.S),(9,F9.S),(12,F12.S),(13,F13.S),(14,F14.S),(15,F15.S),(16,F16.S),(17,F17.S),(18,F18.S),(19,F19.S),(21,F21.S),(20,F20.S)]⟩
theorem ok3:F3.S.Ok Tryz.prog 3:=F3.ok Tryz.func3 (by kernel_rfl) ⟨ok7,⟨ok8,⟨ZuJ,⟨Zs3,⟨ok9,⟨Zuj,⟨Zsu,⟨ZuL,⟨ZvP,⟨ZoN,⟨Zu3,⟨ZuI,⟨Zu0,⟨Zuz,⟨Zv4,trivial⟩⟩⟩⟩⟩⟩⟩⟩⟩⟩⟩⟩⟩⟩⟩
noncomputable def g3 (a:LL) (b:Int):Option (Bool):=F3.S.g [.l a,.i b]
noncomputable def ZoM (rec0:List V→Option (Bool)) (k:Nat) (a:LL) (c d e f g:Int) (h:LL) (j m n o p q:Int) (r:Bool) (s t u v w x y z A C D E G H J K L M N O:Int) (P:LL) (Q R T U W X:Int) (Y:Bool) (Z aa ab ac:LL) (ad:Int) (ae:LL) (af ag ah ai aj:Int) (ak:Bool) (al am:LL) (an ao ap aq ar au av aw ax ay az a0 a1 a2 a3 a4 a5 a6 a7 a8:Int) (a9:LL) (ba bb bc bd be bf:Int) (bg:Bool) (bh:Int) (bi bj bk:LL):Option (Bool):=F3.lp [0,1,8,1,0,1,2,1,0] 1 (Zod r0 0 rec0) k [.l a,.i c,.i d,.i e,.i f,.i g,.l h,.i j,.i m,.i n,.i o,.i p,.i q,.b r,.i s,.i t,.i u,.i v,.i w,.i x,.i y,.i z,.i A,.i C,.i D,.i E,.i G,.i H,.i J,.i K,.i L,.i M,.i N,.i O,.l P,.i Q,.i R,.i T,.i U,.i W,.i X,.b Y,.l Z,.l aa,.l ab,.l ac,.i ad,.l ae,.i af,.i ag,.i ah,.i ai,.i aj,.b ak,.l al,.l am,.i an,.i ao,.i ap,.i aq,.i ar,.i au,.i av,.i aw,.i ax,.i ay,.i az,.i a0,.i a1,.i a2,.i a3,.i a4,.i a5,.i a6,.i a7,.i a8,.l a9,.i ba,.i bb,.i bc,.i bd,.i be,.i bf,.b bg,.i bh,.l bi,.l bj,.l bk]
theorem Zn2 (rec0:List V→Option (Bool)) (k:Nat) (h:LL) (u v o p q:Int) (w:LL) (x y z A C D:Int) (E:Bool) (j m n G H J K L M N O P Q R T U W X Y Z:Int) (aa:LL) (ab ac ad ae af ag:Int) (ah:Bool) (r g s t:LL) (e:Int) (ai:LL) (aj f ak al am:Int) (an:Bool) (ao ap:LL) (aq ar au av aw ax ay az a0 a1 a2 a3 a4 a5 a6 a7 a8 a9 ba bb:Int) (bc:LL) (bd be bf bg bh bi:Int) (bj:Bool) (bk:Int) (bl bm bn:LL):ZoM rec0 (k+1) h u v o p q w x y z A C D E j m n G H J K L M N O P Q R T U W X Y Z aa ab ac ad ae af ag ah r g s t e ai aj f ak al am an ao ap aq ar au av aw ax ay az a0 a1 a2 a3 a4 a5 a6 a7 a8 a9 ba bb bc bd be bf bg bh bi bj bk bl bm bn =
 (if (cop .lss f (List.length g:Int)) then
 Zt r f hs0 fun (bo:Qt3)=>
 Zt s e [.int .i64] fun (br:Int)=>
 if (cop .neq bo.1 br) then
 some (false)
 else
 Zt r f hs0 fun (bs:Qt3)=>
 Zt g f [.int .i64] fun (bt:Int)=>
 if (cop .neq bs.2.2.2.1 bt) then
 some (false)
 else
 Zt r f hs0 fun (bp:Qt3)=>
 if (!((cop .eql bp.2.2.2.2.2.2.2.1 j)&&((cop .eql bp.2.2.2.2.2.2.2.2.1 m)&&((cop .eql bp.2.2.2.2.2.2.2.2.2.1 n)&&true)))) then
 some (false)
 else
 if (cop .gtr (List.length ai:Int) 0) then
 some (false)
 else
 Zt t e [.int .i64] fun (bu:Int)=>
 Zt g f [.int .i64] fun (bv:Int)=>
 (g18 ak al am an ao ap aq ar au av aw ax ay az a0 a1 a2 a3 a4 a5 a6 a7 a8 a9 ba bb bc bd be bf bg bh bi bj bk bl bm bn bu 0 bv 0 0 0 0 j m n 0 false 0 0 0 0 0 0 0 0 0 0 0 0 0 0 0 0 0 0 0 0 E0 0 0 0 0 0 0 false E0 E0 E0 E0 0 0 E0 E0 E0 E0 E0 E0 E0 E0 0 0 E0 E0 E0 E0 E0 E0 E0 E0 false 0 E0 E0 E0 E0 E0 E0 E0 E0).bind fun c=>
 ZoM rec0 k h u v o p q w x y z A C D E j m n G H J K L M N O P Q R T U W X Y Z aa ab ac ad ae af ag ah r g s t e c.1 (iop .add .i64 aj (List.length c.2.1:Int)) (iop .add .i64 f 1) c.2.2.1 c.2.2.2.1 c.2.2.2.2.1 c.2.2.2.2.2.1 c.2.2.2.2.2.2.1 c.2.2.2.2.2.2.2.1 c.2.2.2.2.2.2.2.2.1 c.2.2.2.2.2.2.2.2.2.1 c.2.2.2.2.2.2.2.2.2.2.1 c.2.2.2.2.2.2.2.2.2.2.2.1 (d4 (d8 c)).1 (d4 (d8 c)).2.1 (d2 (d4 (d8 c))).1 (d2 (d4 (d8 c))).2.1 (d16 c).1 (d16 c).2.1 (d2 (d16 c)).1 (d2 (d16 c)).2.1 (d4 (d16 c)).1 (d4 (d16 c)).2.1 (d2 (d4 (d16 c))).1 (d2 (d4 (d16 c))).2.1 (d8 (d16 c)).1 (d8 (d16 c)).2.1 (d2 (d8 (d16 c))).1 (d2 (d8 (d16 c))).2.1 (d4 (d8 (d16 c))).1 (d4 (d8 (d16 c))).2.1 (d2 (d4 (d8 (d16 c)))).1 (d2 (d4 (d8 (d16 c)))).2.1 (d16 (d16 c)).1 (d16 (d16 c)).2.1 (d2 (d16 (d16 c))).1 (d2 (d16 (d16 c))).2.1 (d4 (d16 (d16 c))).1 (d4 (d16 (d16 c))).2.1 (d2 (d4 (d16 (d16 c)))).1 (d2 (d4 (d16 (d16 c)))).2
 else
 (g11 h).bind fun bo=>
 if (cop .gtr e 0) then
 (g19 h o p q).bind fun bq=>
 Zt (((E0++[[AV.val (.int .i64 0)]])++[[AV.val (.int .i64 1)]])++[[AV.val (.int .i64 0)]]) e [.int .i64] fun (a:Int)=>
 if (cop .neq aj a) then
 some (false)
 else
 (g21 ak al am an ao ap aq ar au av aw ax ay az a0 a1 a2 a3 a4 a5 a6 a7 a8 a9 ba bb bc bd be bf bg bh bi bj bk bl bm bn).bind fun d=>
 (g20 d.1 bq).bind fun bw=>
 if (!bw) then
 some (false)
 else
 rec0 [.l h,.i u,.i v,.i o,.i p,.i q,.l w,.i x,.i y,.i z,.i A,.i C,.i D,.b E,.i j,.i m,.i n,.i G,.i H,.i J,.i K,.i L,.i M,.i N,.i O,.i P,.i Q,.i R,.i T,.i U,.i W,.i X,.i Y,.i Z,.l aa,.i ab,.i ac,.i ad,.i ae,.i af,.i ag,.b ah,.l ai,.l g,.l s,.l t,.i (iop .add .i64 e 1),.i d.2.1,.i d.2.2.1,.i d.2.2.2.1,.b d.2.2.2.2.1,.l d.2.2.2.2.2.1,.l d.2.2.2.2.2.2.1,.i d.2.2.2.2.2.2.2.1,.i d.2.2.2.2.2.2.2.2.1,.i d.2.2.2.2.2.2.2.2.2.1,.i d.2.2.2.2.2.2.2.2.2.2.1,.i d.2.2.2.2.2.2.2.2.2.2.2.1,.i (d4 (d8 d)).1,.i (d4 (d8 d)).2.1,.i (d2 (d4 (d8 d))).1,.i (d2 (d4 (d8 d))).2.1,.i (d16 d).1,.i (d16 d).2.1,.i (d2 (d16 d)).1,.i (d2 (d16 d)).2.1,.i (d4 (d16 d)).1,.i (d4 (d16 d)).2.1,.i (d2 (d4 (d16 d))).1,.i (d2 (d4 (d16 d))).2.1,.i (d8 (d16 d)).1,.i (d8 (d16 d)).2.1,.i (d2 (d8 (d16 d))).1,.l (d2 (d8 (d16 d))).2.1,.i (d4 (d8 (d16 d))).1,.i (d4 (d8 (d16 d))).2.1,.i (d2 (d4 (d8 (d16 d)))).1,.i (d2 (d4 (d8 (d16 d)))).2.1,.i (d16 (d16 d)).1,.i (d16 (d16 d)).2.1,.b (d2 (d16 (d16 d))).1,.i (d2 (d16 (d16 d))).2.1,.l (d4 (d16 (d16 d))).1,.l (d4 (d16 (d16 d))).2.1,.l (d2 (d4 (d16 (d16 d))))]
 else
 Zt (((E0++[[AV.val (.int .i64 0)]])++[[AV.val (.int .i64 1)]])++[[AV.val (.int .i64 0)]]) e [.int .i64] fun (bq:Int)=>
 if (cop .neq aj bq) then
 some (false)
 else
 (g21 ak al am an ao ap aq ar au av aw ax ay az a0 a1 a2 a3 a4 a5 a6 a7 a8 a9 ba bb bc bd be bf bg bh bi bj bk bl bm bn).bind fun a=>
 (g20 a.1 bo).bind fun bx=>
 if (!bx) then
 some (false)
 else
 rec0 [.l h,.i u,.i v,.i o,.i p,.i q,.l w,.i x,.i y,.i z,.i A,.i C,.i D,.b E,.i j,.i m,.i n,.i G,.i H,.i J,.i K,.i L,.i M,.i N,.i O,.i P,.i Q,.i R,.i T,.i U,.i W,.i X,.i Y,.i Z,.l aa,.i ab,.i ac,.i ad,.i ae,.i af,.i ag,.b ah,.l ai,.l g,.l s,.l t,.i (iop .add .i64 e 1),.i a.2.1,.i a.2.2.1,.i a.2.2.2.1,.b a.2.2.2.2.1,.l a.2.2.2.2.2.1,.l a.2.2.2.2.2.2.1,.i a.2.2.2.2.2.2.2.1,.i a.2.2.2.2.2.2.2.2.1,.i a.2.2.2.2.2.2.2.2.2.1,.i a.2.2.2.2.2.2.2.2.2.2.1,.i a.2.2.2.2.2.2.2.2.2.2.2.1,.i (d4 (d8 a)).1,.i (d4 (d8 a)).2.1,.i (d2 (d4 (d8 a))).1,.i (d2 (d4 (d8 a))).2.1,.i (d16 a).1,.i (d16 a).2.1,.i (d2 (d16 a)).1,.i (d2 (d16 a)).2.1,.i (d4 (d16 a)).1,.i (d4 (d16 a)).2.1,.i (d2 (d4 (d16 a))).1,.i (d2 (d4 (d16 a))).2.1,.i (d8 (d16 a)).1,.i (d8 (d16 a)).2.1,.i (d2 (d8 (d16 a))).1,.l (d2 (d8 (d16 a))).2.1,.i (d4 (d8 (d16 a))).1,.i (d4 (d8 (d16 a))).2.1,.i (d2 (d4 (d8 (d16 a)))).1,.i (d2 (d4 (d8 (d16 a)))).2.1,.i (d16 (d16 a)).1,.i (d16 (d16 a)).2.1,.b (d2 (d16 (d16 a))).1,.i (d2 (d16 (d16 a))).2.1,.l (d4 (d16 (d16 a))).1,.l (d4 (d16 (d16 a))).2.1,.l (d2 (d4 (d16 (d16 a))))]):=by kernel_rfl
noncomputable def ZpA (k:Nat) (a:LL) (c d e f g:Int) (h:LL) (j m n o p q:Int) (r:Bool) (s t u v w x y z A C D E G H J K L M N O:Int) (P:LL) (Q R T U V W:Int) (X:Bool) (Y Z aa ab:LL) (ac ad ae af:Int) (ag:Bool) (ah ai:LL) (aj ak al am an ao ap aq ar au av aw ax ay az a0 a1 a2 a3 a4:Int) (a5:LL) (a6 a7 a8 a9 ba bb:Int) (bc:Bool) (bd:Int) (be bf bg:LL):Option (Bool):=F3.lp [0,1,8,1,0,1,0] 0 r0 k [.l a,.i c,.i d,.i e,.i f,.i g,.l h,.i j,.i m,.i n,.i o,.i p,.i q,.b r,.i s,.i t,.i u,.i v,.i w,.i x,.i y,.i z,.i A,.i C,.i D,.i E,.i G,.i H,.i J,.i K,.i L,.i M,.i N,.i O,.l P,.i Q,.i R,.i T,.i U,.i V,.i W,.b X,.l Y,.l Z,.l aa,.l ab,.i ac,.i ad,.i ae,.i af,.b ag,.l ah,.l ai,.i aj,.i ak,.i al,.i am,.i an,.i ao,.i ap,.i aq,.i ar,.i au,.i av,.i aw,.i ax,.i ay,.i az,.i a0,.i a1,.i a2,.i a3,.i a4,.l a5,.i a6,.i a7,.i a8,.i a9,.i ba,.i bb,.b bc,.i bd,.l be,.l bf,.l bg]
theorem Znj (k:Nat) (d:LL) (e f g h i:Int) (j:LL) (l m n o p q:Int) (r:Bool) (s t u v w x y z A C D E G H J K L M N O:Int) (P:LL) (Q R T U V W:Int) (X:Bool) (a b Y Z:LL) (c aa ab ac:Int) (ad:Bool) (ae af:LL) (ag ah ai aj ak al am an ao ap aq ar au av aw ax ay az a0 a1:Int) (a2:LL) (a3 a4 a5 a6 a7 a8:Int) (a9:Bool) (ba:Int) (bb bc bd:LL):ZpA (k+1) d e f g h i j l m n o p q r s t u v w x y z A C D E G H J K L M N O P Q R T U V W X a b Y Z c aa ab ac ad ae af ag ah ai aj ak al am an ao ap aq ar au av aw ax ay az a0 a1 a2 a3 a4 a5 a6 a7 a8 a9 ba bb bc bd =
 (if (cop .lss c 3) then
 if (cop .neq (List.length a:Int) (List.length b:Int)) then
 some (false)
 else
 ZoM (F3.lp [0,1,8,1,0,1,0] 0 r0 k) Jn d e f g h i j l m n o p q r s t u v w x y z A C D E G H J K L M N O P Q R T U V W X a b Y Z c E0 0 0 aa ab ac ad ae af ag ah ai aj ak al am an ao ap aq ar au av aw ax ay az a0 a1 a2 a3 a4 a5 a6 a7 a8 a9 ba bb bc bd
 else
 if (cop .eql (List.length a:Int) 1) then
 Zt a 0 hs0 fun (be:Qt3)=>
 if (cop .eql be.1 2) then
 Zt a 0 hs0 fun (bf:Qt3)=>
 if (cop .eql bf.2.2.2.2.2.2.2.2.2.2.1 0) then
 Zt a 0 hs0 fun (bg:Qt3)=>
 if bg.2.2.2.2.2.2.2.2.2.2.2.1 then
 (g8).bind fun bh=>
 some (bh)
 else
 some (false)
 else
 some (false)
 else
 some (false)
 else
 some (false)):=by kernel_rfl
noncomputable def ZqI (k:Nat) (a:LL) (c d e f g:Int) (h:LL) (j m n o p q:Int) (r:Bool) (s t u v w x y z A C D E G H J K L M N O:Int) (P:LL) (Q R T U V W:Int) (X:Bool) (Y Z aa:LL) (ab ac ad ae:Int) (af:Bool) (ag ah:LL) (ai aj ak al am an ao ap aq ar au av aw ax ay az a0 a1 a2 a3:Int) (a4:LL) (a5 a6 a7 a8 a9 ba:Int) (bb:Bool) (bc:Int) (bd be bf:LL):Option (Bool):=F3.lp [0,1,8,1,0] 0 r0 k [.l a,.i c,.i d,.i e,.i f,.i g,.l h,.i j,.i m,.i n,.i o,.i p,.i q,.b r,.i s,.i t,.i u,.i v,.i w,.i x,.i y,.i z,.i A,.i C,.i D,.i E,.i G,.i H,.i J,.i K,.i L,.i M,.i N,.i O,.l P,.i Q,.i R,.i T,.i U,.i V,.i W,.b X,.l Y,.l Z,.l aa,.i ab,.i ac,.i ad,.i ae,.b af,.l ag,.l ah,.i ai,.i aj,.i ak,.i al,.i am,.i an,.i ao,.i ap,.i aq,.i ar,.i au,.i av,.i aw,.i ax,.i ay,.i az,.i a0,.i a1,.i a2,.i a3,.l a4,.i a5,.i a6,.i a7,.i a8,.i a9,.i ba,.b bb,.i bc,.l bd,.l be,.l bf]
theorem Zot (k:Nat) (a:LL) (c d e f g:Int) (h:LL) (i j l m n o:Int) (p:Bool) (q r s t u v w x y z A C D E G H J K L M:Int) (N:LL) (O P Q R T U:Int) (V:Bool) (W X Y:LL) (b Z aa ab:Int) (ac:Bool) (ad ae:LL) (af ag ah ai aj ak al am an ao ap aq ar au av aw ax ay az a0:Int) (a1:LL) (a2 a3 a4 a5 a6 a7:Int) (a8:Bool) (a9:Int) (ba bb bc:LL):ZqI (k+1) a c d e f g h i j l m n o p q r s t u v w x y z A C D E G H J K L M N O P Q R T U V W X Y b Z aa ab ac ad ae af ag ah ai aj ak al am an ao ap aq ar au av aw ax ay az a0 a1 a2 a3 a4 a5 a6 a7 a8 a9 ba bb bc =
 (if (cop .lss b (List.length a:Int)) then
 Zt a b hs18 fun (bd:Qt21)=>
 (g16 X bd.2.2.1 bd.2.2.2.1 bd.2.2.2.2.1).bind fun be=>
 if be then
 Zt a b hs18 fun (bf:Qt21)=>
 (g17 Y bf.1).bind fun bg=>
 ZqI k a c d e f g h i j l m n o p q r s t u v w x y z A C D E G H J K L M N O P Q R T U V W X bg (iop .add .i64 b 1) Z aa ab ac ad ae af ag ah ai aj ak al am an ao ap aq ar au av aw ax ay az a0 a1 a2 a3 a4 a5 a6 a7 a8 a9 ba bb bc
 else
 ZqI k a c d e f g h i j l m n o p q r s t u v w x y z A C D E G H J K L M N O P Q R T U V W X Y (iop .add .i64 b 1) Z aa ab ac ad ae af ag ah ai aj ak al am an ao ap aq ar au av aw ax ay az a0 a1 a2 a3 a4 a5 a6 a7 a8 a9 ba bb bc
 else
 ZpA Jn a c d e f g h i j l m n o p q r s t u v w x y z A C D E G H J K L M N O P Q R T U V W Y ((((E0++[[AV.val (.int .i64 6)]])++[[AV.val (.int .i64 8)]])++[[AV.val (.int .i64 10)]])++[[AV.val (.int .i64 2)]]) (((E0++[[AV.val (.int .i64 7)]])++[[AV.val (.int .i64 9)]])++[[AV.val (.int .i64 11)]]) 0 Z aa ab ac ad ae af ag ah ai aj ak al am an ao ap aq ar au av aw ax ay az a0 a1 a2 a3 a4 a5 a6 a7 a8 a9 ba bb bc):=by kernel_rfl
theorem Zsm (g:LL) (h:Int):g3 g h =
 ((g7 g).bind fun e=>
 if (cop .eql (List.length e:Int) 0) then
 (g8).bind fun f=>
 some (f)
 else
 (g10).bind fun f=>
 (g11 e).bind fun j=>
 (g9 0 f.1 f.2.1 f.2.2 j).bind fun b=>
 (g12 h (List.length e:Int)).bind fun k=>
 Zt e k hs18 fun (c:Qt21)=>
 (g13 c.2.2.1 c.2.2.2.1 c.2.2.2.2.1 c.2.2.2.2.2.1 c.2.2.2.2.2.2.1 c.2.2.2.2.2.2.2.1 c.2.2.2.2.2.2.2.2.1 c.2.2.2.2.2.2.2.2.2.1 c.2.2.2.2.2.2.2.2.2.2.1 c.2.2.2.2.2.2.2.2.2.2.2.1 (d4 (d8 c))).bind fun d=>
 (g14 b.1 b.2.1 b.2.2.1 b.2.2.2.1 b.2.2.2.2.1 b.2.2.2.2.2.1 b.2.2.2.2.2.2.1 b.2.2.2.2.2.2.2.1 b.2.2.2.2.2.2.2.2.1 b.2.2.2.2.2.2.2.2.2.1 b.2.2.2.2.2.2.2.2.2.2.1 b.2.2.2.2.2.2.2.2.2.2.2.1 (d4 (d8 b)).1 (d4 (d8 b)).2.1 (d2 (d4 (d8 b))).1 (d2 (d4 (d8 b))).2.1 (d16 b).1 (d16 b).2.1 (d2 (d16 b)).1 (d2 (d16 b)).2.1 (d4 (d16 b)).1 (d4 (d16 b)).2.1 (d2 (d4 (d16 b))).1 (d2 (d4 (d16 b))).2.1 (d8 (d16 b)).1 (d8 (d16 b)).2.1 (d2 (d8 (d16 b))).1 (d2 (d8 (d16 b))).2.1 (d4 (d8 (d16 b))).1 (d4 (d8 (d16 b))).2.1 (d2 (d4 (d8 (d16 b)))).1 (d2 (d4 (d8 (d16 b)))).2.1 (d16 (d16 b)).1 (d16 (d16 b)).2.1 (d2 (d16 (d16 b))).1 (d2 (d16 (d16 b))).2.1 (d4 (d16 (d16 b))).1 (d4 (d16 (d16 b))).2 c.1 100 0 6 c.2.1 0 0 0 0 0 0 0 0 0 0 0 32 d.1 d.2.1 d.2.2.1 d.2.2.2.1 d.2.2.2.2.1 d.2.2.2.2.2.1 d.2.2.2.2.2.2.1 d.2.2.2.2.2.2.2.1 d.2.2.2.2.2.2.2.2.1 d.2.2.2.2.2.2.2.2.2.1 d.2.2.2.2.2.2.2.2.2.2).bind fun a=>
 (g15 e c.2.2.1 c.2.2.2.1 c.2.2.2.2.1).bind fun i=>
 if (cop .eql (List.length i:Int) 0) then
 if (cop .eql (List.length a.1:Int) 1) then
 Zt a.1 0 hs0 fun (l:Qt3)=>
 if (cop .eql l.1 2) then
 Zt a.1 0 hs0 fun (m:Qt3)=>
 if (cop .eql m.2.2.2.2.2.2.2.2.2.2.1 0) then
 Zt a.1 0 hs0 fun (n:Qt3)=>
 if (!n.2.2.2.2.2.2.2.2.2.2.2.1) then
 (g8).bind fun o=>
 some (o)
 else
 some (false)
 else
 some (false)
 else
 some (false)
 else
 some (false)
 else
 ZqI Jn e c.1 c.2.1 c.2.2.1 c.2.2.2.1 c.2.2.2.2.1 c.2.2.2.2.2.1 c.2.2.2.2.2.2.1 c.2.2.2.2.2.2.2.1 c.2.2.2.2.2.2.2.2.1 c.2.2.2.2.2.2.2.2.2.1 c.2.2.2.2.2.2.2.2.2.2.1 c.2.2.2.2.2.2.2.2.2.2.2.1 (d4 (d8 c)) c.1 100 0 6 c.2.1 0 0 0 0 0 0 0 0 0 0 0 32 d.1 d.2.1 d.2.2.1 d.2.2.2.1 d.2.2.2.2.1 d.2.2.2.2.2.1 d.2.2.2.2.2.2.1 d.2.2.2.2.2.2.2.1 d.2.2.2.2.2.2.2.2.1 d.2.2.2.2.2.2.2.2.2.1 d.2.2.2.2.2.2.2.2.2.2 a.1 i (E0++[[AV.val (.int .i64 c.1)]]) 0 a.2.1 a.2.2.1 a.2.2.2.1 a.2.2.2.2.1 a.2.2.2.2.2.1 a.2.2.2.2.2.2.1 a.2.2.2.2.2.2.2.1 a.2.2.2.2.2.2.2.2.1 a.2.2.2.2.2.2.2.2.2.1 a.2.2.2.2.2.2.2.2.2.2.1 a.2.2.2.2.2.2.2.2.2.2.2.1 (d4 (d8 a)).1 (d4 (d8 a)).2.1 (d2 (d4 (d8 a))).1 (d2 (d4 (d8 a))).2.1 (d16 a).1 (d16 a).2.1 (d2 (d16 a)).1 (d2 (d16 a)).2.1 (d4 (d16 a)).1 (d4 (d16 a)).2.1 (d2 (d4 (d16 a))).1 (d2 (d4 (d16 a))).2.1 (d8 (d16 a)).1 (d8 (d16 a)).2.1 (d2 (d8 (d16 a))).1 (d2 (d8 (d16 a))).2.1 (d4 (d8 (d16 a))).1 (d4 (d8 (d16 a))).2.1 (d2 (d4 (d8 (d16 a)))).1 (d2 (d4 (d8 (d16 a)))).2.1 (d16 (d16 a)).1 (d16 (d16 a)).2.1 (d2 (d16 (d16 a))).1 (d2 (d16 (d16 a))).2.1 (d4 (d16 (d16 a))).1 (d4 (d16 (d16 a))).2.1 (d2 (d4 (d16 (d16 a))))):=by kernel_rfl
end Go.Proofs.YtlgmnddelljbmaaGreat
