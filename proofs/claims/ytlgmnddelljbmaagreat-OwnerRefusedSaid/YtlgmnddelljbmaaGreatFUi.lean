/- Functions of the program, as what they compute. -/
import Derived.Test.YtlgmnddelljbmaaGreatBUh
namespace Go.Proofs.YtlgmnddelljbmaaGreat
open Go Go.AM
set_option linter.unusedVariables false
set_option maxRecDepth 100000
set_option synthInstance.maxSize 2000
noncomputable def F10:Fn:=⟨2,[0],[],[],0,[],[],Tryz.f10,[],[.agg [.int .i64,.int .i64,.bool]],[]⟩
theorem Zr1:F10.S.Ok Tryz.prog 10:=F10.ok Tryz.func10 (by kernel_rfl) trivial
noncomputable def g10:Option (Int×Int×Bool):=F10.S.g []
noncomputable def F22:Fn:=⟨16,[8],[],[],0,[],[],Tryz.f22,[.c (.int .i64),.c (.int .i64),.c (.int .i64),.c (.int .i64)],[.agg hs7],[]⟩
theorem ZsX:F22.S.Ok Tryz.prog 22:=F22.ok Tryz.func22 (by kernel_rfl) trivial
noncomputable def F8:Fn:=⟨63,[0],[],[],0,[],[],Tryz.f8,[],[.c (.bool)],[(10,F10.S),(9,F9.S),(22,F22.S),(14,F14.S),(18,F18.S),(21,F21.S)]⟩
theorem ok8:F8.S.Ok Tryz.prog 8:=F8.ok Tryz.func8 (by kernel_rfl) ⟨Zr1,⟨ok9,⟨ZsX,⟨ZrQ,⟨ZrN,⟨ZrL,trivial⟩⟩⟩⟩⟩⟩
noncomputable def g8:Option (Bool):=F8.S.g []
noncomputable def F12:Fn:=⟨16,[4],[],[],0,[],[],Tryz.f12,[.c (.int .i64),.c (.int .i64)],[.c (.int .i64)],[]⟩
theorem Zq8:F12.S.Ok Tryz.prog 12:=F12.ok Tryz.func12 (by kernel_rfl) trivial
noncomputable def g12 (a b:Int):Option (Int):=F12.S.g [.i a,.i b]
theorem ZmB (b a:Int):g12 b a =
 (if (cop .lss a 1) then
 some (0)
 else
 ZV ((a:Int)≠0)<|
 if (cop .lss (iop .rem .i64 b a) 0) then
 some ((iop .add .i64 (iop .rem .i64 b a) a))
 else
 some ((iop .rem .i64 b a))):=by kernel_rfl
noncomputable def ZoK:Fn:=⟨20,[4],[],[],0,[],[],Tryz.f138,[.c (.int .i64),.c (.int .i64)],[.agg [.int .i64,.int .i64]],[(12,F12.S)]⟩
theorem Zqt:ZoK.S.Ok Tryz.prog 138:=ZoK.ok Tryz.func138 (by kernel_rfl) ⟨Zq8,trivial⟩
noncomputable def ZrD (a b:Int):Option (Int×Int):=ZoK.S.g [.i a,.i b]
theorem ZkC (b c:Int):ZrD b c =
 ((g12 c 11).bind fun a=>
 ZV ((0:Int)≤(IntKind.wrap .u64 (iop .sub .i64 16 (iop .add .i64 6 a))))<|
 (g12 b (iop .shl .i64 1 (IntKind.wrap .u64 (iop .sub .i64 16 (iop .add .i64 6 a))))).bind fun d=>
 ZV ((0:Int)≤(IntKind.wrap .u64 (iop .add .i64 6 a)))<|
 some ((iop .shl .i64 d (IntKind.wrap .u64 (iop .add .i64 6 a))),(iop .add .i64 6 a))):=by kernel_rfl
noncomputable def F78:Fn:=⟨14,[4],[],[],0,[],[],Tryz.f78,[.c (.int .i64),.c (.int .i64)],[.agg hs22],[(138,ZoK.S)]⟩
theorem Zsn:F78.S.Ok Tryz.prog 78:=F78.ok Tryz.func78 (by kernel_rfl) ⟨Zqt,trivial⟩
noncomputable def g78 (a b:Int):Option (Qt26):=F78.S.g [.i a,.i b]
theorem ZmE (a b:Int):g78 a b =
 ((ZrD a b).bind fun c=>
 some (1,c.1,c.2,7,0,0,false)):=by kernel_rfl
noncomputable def Zmk:Fn:=⟨21,[4],[(2,[(0,.c (.slice 13)),(3,.box [.int .i64,.int .i64,.int .i64]),(5,.c (.int .i64))])],[],0,[],[],Tryz.f110,[.c (.slice 13),.agg [.int .i64,.int .i64,.int .i64]],[.c (.int .i64)],[]⟩
theorem Zm6:Zmk.S.Ok Tryz.prog 110:=Zmk.ok Tryz.func110 (by kernel_rfl) trivial
noncomputable def Zov (a:LL) (b c d:Int):Option (Int):=Zmk.S.g [.l a,.i b,.i c,.i d]
noncomputable def ZbZ (k:Nat) (a:LL) (b c d e:Int):Option (Int):=Zmk.lp [0] 0 r0 k [.l a,.i b,.i c,.i d,.i e]
theorem Zdf (k:Nat) (b:LL) (c d e a:Int):ZbZ (k+1) b c d e a =
 (if (cop .lss a (List.length b:Int)) then
 Zu b a hs18 fun (f:Qt21)=>
 if ((cop .eql f.2.2.1 c)&&((cop .eql f.2.2.2.1 d)&&((cop .eql f.2.2.2.2.1 e)&&true))) then
 some (a)
 else
 ZbZ k b c d e (iop .add .i64 a 1)
 else
 some ((-1))):=by kernel_rfl
theorem ZlM (a:LL) (b c d:Int):Zov a b c d =
 (ZbZ JD a b c d 0):=by kernel_rfl
noncomputable def Znk:Fn:=⟨8,[2],[],[],0,[],[],Tryz.f140,[.agg hs22],[.agg [.int .i64,.int .i64]],[]⟩
theorem ZmL:Znk.S.Ok Tryz.prog 140:=Znk.ok Tryz.func140 (by kernel_rfl) trivial
noncomputable def Zig (a c d e f h:Int) (j:Bool):Option (Int×Int):=Znk.S.g [.i a,.i c,.i d,.i e,.i f,.i h,.b j]
theorem ZkQ (c a b d e f:Int) (g:Bool):Zig c a b d e f g =
 (some (a,b)):=by kernel_rfl
noncomputable def ZkT:Fn:=⟨38,[2],[],[],0,[],[],Tryz.f188,[.agg [.int .i64,.int .i64]],[.c (.bool)],[]⟩
theorem Zjh:ZkT.S.Ok Tryz.prog 188:=ZkT.ok Tryz.func188 (by kernel_rfl) trivial
noncomputable def Zka (a b:Int):Option (Bool):=ZkT.S.g [.i a,.i b]
theorem Zk9 (b a:Int):Zka b a =
 (if (cop .lss a 6) then
 some (false)
 else
 if (cop .gtr a 40) then
 some (false)
 else
 if (cop .lss b 0) then
 some (false)
 else
 if (cop .geq b 1099511627776) then
 some (false)
 else
 ZV ((0:Int)≤(IntKind.wrap .u64 a))<|
 ZV (((iop .shl .i64 1 (IntKind.wrap .u64 a)):Int)≠0)<|
 if (cop .eql (iop .rem .i64 b (iop .shl .i64 1 (IntKind.wrap .u64 a))) 0) then
 some ((cop .leq (iop .add .i64 b (iop .shl .i64 1 (IntKind.wrap .u64 a))) 1099511627776))
 else
 some (false)):=by kernel_rfl
noncomputable def Zn3:Fn:=⟨13,[2],[],[],0,[],[],Tryz.f189,[.agg [.int .i64,.int .i64]],[.c (.int .i64)],[(188,ZkT.S)]⟩
theorem ZnG:Zn3.S.Ok Tryz.prog 189:=Zn3.ok Tryz.func189 (by kernel_rfl) ⟨Zjh,trivial⟩
noncomputable def Zme (a b:Int):Option (Int):=Zn3.S.g [.i a,.i b]
theorem ZlB (b a:Int):Zme b a =
 ((Zka b a).bind fun c=>
 if (!c) then
 some (0)
 else
 ZV ((0:Int)≤(IntKind.wrap .u64 a))<|
 some ((iop .add .i64 b (iop .shl .i64 1 (IntKind.wrap .u64 a))))):=by kernel_rfl
noncomputable def Zpb:Fn:=⟨25,[4],[],[],0,[],[],Tryz.f139,[.agg [.int .i64,.int .i64],.agg [.int .i64,.int .i64]],[.c (.bool)],[(188,ZkT.S),(189,Zn3.S)]⟩
theorem ZpT:Zpb.S.Ok Tryz.prog 139:=Zpb.ok Tryz.func139 (by kernel_rfl) ⟨Zjh,⟨ZnG,trivial⟩⟩
noncomputable def Zq4 (a b c d:Int):Option (Bool):=Zpb.S.g [.i a,.i b,.i c,.i d]
theorem Zl2 (a c b d:Int):Zq4 a c b d =
 ((Zka a c).bind fun e=>
 if e then
 (Zka b d).bind fun f=>
 if f then
 if (cop .leq a b) then
 (Zme b d).bind fun g=>
 (Zme a c).bind fun h=>
 some ((cop .leq g h))
 else
 some (false)
 else
 some (false)
 else
 some (false)):=by kernel_rfl
noncomputable def ZoS:Fn:=⟨25,[4],[],[],0,[],[],Tryz.f141,[.agg [.int .i64,.int .i64],.agg [.int .i64,.int .i64]],[.c (.bool)],[(188,ZkT.S),(189,Zn3.S)]⟩
theorem ZpA:ZoS.S.Ok Tryz.prog 141:=ZoS.ok Tryz.func141 (by kernel_rfl) ⟨Zjh,⟨ZnG,trivial⟩⟩
noncomputable def ZmY (a b c d:Int):Option (Bool):=ZoS.S.g [.i a,.i b,.i c,.i d]
theorem Zlb (a c b d:Int):ZmY a c b d =
 ((Zka a c).bind fun e=>
 if e then
 (Zka b d).bind fun f=>
 if f then
 (Zme b d).bind fun g=>
 if (cop .lss a g) then
 (Zme a c).bind fun h=>
 some ((cop .lss b h))
 else
 some (false)
 else
 some (false)
 else
 some (false)):=by kernel_rfl
noncomputable def F79:Fn:=⟨64,[6],[(3,[(0,.c (.slice 13)),(2,.c (.slice 7)),(7,.c (.int .i64)),(8,.c (.int .i64))]),(6,[(0,.c (.slice 13)),(2,.c (.slice 7)),(7,.c (.int .i64)),(8,.c (.int .i64)),(9,.c (.int .i64))])],[],0,[],[],Tryz.f79,[.c (.slice 13),.agg [.int .i64,.int .i64,.int .i64],.c (.slice 7)],[.c (.bool)],[(110,Zmk.S),(140,Znk.S),(139,Zpb.S),(141,ZoS.S)]⟩
theorem ZsV:F79.S.Ok Tryz.prog 79:=F79.ok Tryz.func79 (by kernel_rfl) ⟨Zm6,⟨ZmL,⟨ZpT,⟨ZpA,trivial⟩⟩⟩⟩
noncomputable def g79 (a:LL) (b c d:Int) (e:LL):Option (Bool):=F79.S.g [.l a,.i b,.i c,.i d,.l e]
noncomputable def W5 (rec0:List V→Option (Bool)) (k:Nat) (a b:LL) (c d e:Int):Option (Bool):=F79.lp [3,0] 1 (Zl8 r0 0 rec0) k [.l a,.l b,.i c,.i d,.i e]
theorem ZfB (rec0:List V→Option (Bool)) (k:Nat) (c d:LL) (f e h:Int):W5 rec0 (k+1) c d f e h =
 (if (cop .lss h (List.length c:Int)) then
 Zu c h hs18 fun (a:Qt21)=>
 if (cop .geq f 0) then
 if (cop .eql a.2.2.2.2.2.2.1 1) then
 (Zig a.2.2.2.2.2.2.1 a.2.2.2.2.2.2.2.1 a.2.2.2.2.2.2.2.2.1 a.2.2.2.2.2.2.2.2.2.1 a.2.2.2.2.2.2.2.2.2.2.1 a.2.2.2.2.2.2.2.2.2.2.2.1 (d4 (d8 a))).bind fun g=>
 Zu c f hs18 fun (b:Qt21)=>
 (Zig b.2.2.2.2.2.2.1 b.2.2.2.2.2.2.2.1 b.2.2.2.2.2.2.2.2.1 b.2.2.2.2.2.2.2.2.2.1 b.2.2.2.2.2.2.2.2.2.2.1 b.2.2.2.2.2.2.2.2.2.2.2.1 (d4 (d8 b))).bind fun o=>
 (Zq4 g.1 g.2 o.1 o.2).bind fun r=>
 (Zig a.2.2.2.2.2.2.1 a.2.2.2.2.2.2.2.1 a.2.2.2.2.2.2.2.2.1 a.2.2.2.2.2.2.2.2.2.1 a.2.2.2.2.2.2.2.2.2.2.1 a.2.2.2.2.2.2.2.2.2.2.2.1 (d4 (d8 a))).bind fun p=>
 Zu d e hs22 fun (j:Qt26)=>
 (Zig j.1 j.2.1 j.2.2.1 j.2.2.2.1 j.2.2.2.2.1 j.2.2.2.2.2.1 j.2.2.2.2.2.2).bind fun q=>
 (ZmY p.1 p.2 q.1 q.2).bind fun s=>
 if s then
 if (!r) then
 some (true)
 else
 W5 rec0 k c d f e (iop .add .i64 h 1)
 else
 W5 rec0 k c d f e (iop .add .i64 h 1)
 else
 (Zig a.2.2.2.2.2.2.1 a.2.2.2.2.2.2.2.1 a.2.2.2.2.2.2.2.2.1 a.2.2.2.2.2.2.2.2.2.1 a.2.2.2.2.2.2.2.2.2.2.1 a.2.2.2.2.2.2.2.2.2.2.2.1 (d4 (d8 a))).bind fun g=>
 Zu d e hs22 fun (b:Qt26)=>
 (Zig b.1 b.2.1 b.2.2.1 b.2.2.2.1 b.2.2.2.2.1 b.2.2.2.2.2.1 b.2.2.2.2.2.2).bind fun m=>
 (ZmY g.1 g.2 m.1 m.2).bind fun n=>
 if n then
 some (true)
 else
 W5 rec0 k c d f e (iop .add .i64 h 1)
 else
 (Zig a.2.2.2.2.2.2.1 a.2.2.2.2.2.2.2.1 a.2.2.2.2.2.2.2.2.1 a.2.2.2.2.2.2.2.2.2.1 a.2.2.2.2.2.2.2.2.2.2.1 a.2.2.2.2.2.2.2.2.2.2.2.1 (d4 (d8 a))).bind fun g=>
 Zu d e hs22 fun (b:Qt26)=>
 (Zig b.1 b.2.1 b.2.2.1 b.2.2.2.1 b.2.2.2.2.1 b.2.2.2.2.2.1 b.2.2.2.2.2.2).bind fun m=>
 (ZmY g.1 g.2 m.1 m.2).bind fun n=>
 if n then
 some (true)
 else
 W5 rec0 k c d f e (iop .add .i64 h 1)
 else
 rec0 [.l c,.l d,.i f,.i (iop .add .i64 e 1)]):=by kernel_rfl
noncomputable def ZgX (k:Nat) (a b:LL) (c d:Int):Option (Bool):=F79.lp [2] 0 r0 k [.l a,.l b,.i c,.i d]
theorem ZfK (k:Nat) (c a:LL) (d b:Int):ZgX (k+1) c a d b =
 (if (cop .lss b (List.length a:Int)) then
 W5 (F79.lp [2] 0 r0 k) JD c a d b 0
 else
 some (false)):=by kernel_rfl
theorem ZmO (a:LL) (b c d:Int) (e:LL):g79 a b c d e =
 ((Zov a b c d).bind fun f=>
 ZgX JD a e f 0):=by kernel_rfl
noncomputable def Zny:Fn:=⟨31,[6],[(2,[(0,.c (.slice 13)),(1,.c (.int .i64)),(2,.c (.int .i64)),(7,.c (.int .i64))])],[],0,[],[],Tryz.f111,[.c (.slice 13),.c (.int .i64),.c (.int .i64)],[.c (.int .i64)],[]⟩
theorem Zp4:Zny.S.Ok Tryz.prog 111:=Zny.ok Tryz.func111 (by kernel_rfl) trivial
noncomputable def ZpF (a:LL) (b c:Int):Option (Int):=Zny.S.g [.l a,.i b,.i c]
noncomputable def ZaC (k:Nat) (a:LL) (b c d:Int):Option (Int):=Zny.lp [0] 0 r0 k [.l a,.i b,.i c,.i d]
theorem Zd2 (k:Nat) (b:LL) (c d a:Int):ZaC (k+1) b c d a =
 (if (cop .lss a (List.length b:Int)) then
 Zu b a hs18 fun (e:Qt21)=>
 if (cop .eql e.1 c) then
 Zu b a hs18 fun (f:Qt21)=>
 if (cop .eql f.2.1 d) then
 some (a)
 else
 ZaC k b c d (iop .add .i64 a 1)
 else
 ZaC k b c d (iop .add .i64 a 1)
 else
 some ((-1))):=by kernel_rfl
theorem Zlh (a:LL) (b c:Int):ZpF a b c =
 (ZaC JD a b c 0):=by kernel_rfl
noncomputable def ZoQ:Fn:=⟨30,[4],[],[],0,[],[],Tryz.f112,[.agg [.int .i64,.int .i64,.int .i64],.agg [.int .i64,.int .i64,.int .i64]],[.c (.bool)],[]⟩
theorem ZqN:ZoQ.S.Ok Tryz.prog 112:=ZoQ.ok Tryz.func112 (by kernel_rfl) trivial
noncomputable def Zre (a b c d e f:Int):Option (Bool):=ZoQ.S.g [.i a,.i b,.i c,.i d,.i e,.i f]
theorem Zl5 (a b e c d f:Int):Zre a b e c d f =
 (if (cop .neq a c) then
 some ((cop .lss a c))
 else
 if (cop .neq b d) then
 some ((cop .lss b d))
 else
 some ((cop .lss e f))):=by kernel_rfl
noncomputable def F39:Fn:=⟨5,[2],[],[],0,[],[],Tryz.f39,[.c (.slice 3)],[.c (.own false 33)],[]⟩
theorem ZrZ:F39.S.Ok Tryz.prog 39:=F39.ok Tryz.func39 (by kernel_rfl) trivial
noncomputable def g39 (a:LL):Option (LL):=F39.S.g [.l a]
theorem ZnF (a:LL):g39 a =
 (ZV (Yt E0 a 24)<|
 some (a)):=by kernel_rfl
noncomputable def F13:Fn:=⟨8,[2],[],[],0,[],[],Tryz.f13,[.agg hs19],[.agg hs19],[(39,F39.S)]⟩
theorem Zpr:F13.S.Ok Tryz.prog 13:=F13.ok Tryz.func13 (by kernel_rfl) ⟨ZrZ,trivial⟩
noncomputable def g13 (a c d:Int) (e:LL) (f h j k m n:Int) (o:Bool):Option (Qt24):=F13.S.g [.i a,.i c,.i d,.l e,.i f,.i h,.i j,.i k,.i m,.i n,.b o]
theorem ZmW (a b c:Int) (d:LL) (e f g h i j:Int) (k:Bool):g13 a b c d e f g h i j k =
 ((g39 d).bind fun l=>
 some (a,b,c,l,e,f,g,h,i,j,k)):=by kernel_rfl
noncomputable def F11:Fn:=⟨32,[2],[(3,[(0,.c (.slice 13)),(3,.c (.own false 40)),(4,.c (.int .i64))])],[],0,[],[],Tryz.f11,[.c (.slice 13)],[.c (.own false 40)],[(13,F13.S)]⟩
theorem Zr5:F11.S.Ok Tryz.prog 11:=F11.ok Tryz.func11 (by kernel_rfl) ⟨Zpr,trivial⟩
noncomputable def g11 (a:LL):Option (LL):=F11.S.g [.l a]
noncomputable def ZgA (k:Nat) (a b:LL) (c:Int):Option (LL):=F11.lp [0] 0 r0 k [.l a,.l b,.i c]
theorem Zft (k:Nat) (c e:LL) (d:Int):ZgA (k+1) c e d =
 (if (cop .lss d (List.length c:Int)) then
 Zu c d hs18 fun (f:Qt21)=>
 Zu c d hs18 fun (g:Qt21)=>
 Zu c d hs18 fun (b:Qt21)=>
 (g13 b.2.2.1 b.2.2.2.1 b.2.2.2.2.1 b.2.2.2.2.2.1 b.2.2.2.2.2.2.1 b.2.2.2.2.2.2.2.1 b.2.2.2.2.2.2.2.2.1 b.2.2.2.2.2.2.2.2.2.1 b.2.2.2.2.2.2.2.2.2.2.1 b.2.2.2.2.2.2.2.2.2.2.2.1 (d4 (d8 b))).bind fun a=>
 ZV (Yt e (E0++[[AV.val (.int .i64 f.1),AV.val (.int .i64 g.2.1),AV.val (.int .i64 a.1),AV.val (.int .i64 a.2.1),AV.val (.int .i64 a.2.2.1),AV.slice false 3 a.2.2.2.1,AV.val (.int .i64 a.2.2.2.2.1),AV.val (.int .i64 a.2.2.2.2.2.1),AV.val (.int .i64 a.2.2.2.2.2.2.1),AV.val (.int .i64 a.2.2.2.2.2.2.2.1),AV.val (.int .i64 a.2.2.2.2.2.2.2.2.1),AV.val (.int .i64 a.2.2.2.2.2.2.2.2.2.1),AV.val (.bool a.2.2.2.2.2.2.2.2.2.2)]]) 120)<|
 ZgA k c (e++(E0++[[AV.val (.int .i64 f.1),AV.val (.int .i64 g.2.1),AV.val (.int .i64 a.1),AV.val (.int .i64 a.2.1),AV.val (.int .i64 a.2.2.1),AV.slice false 3 a.2.2.2.1,AV.val (.int .i64 a.2.2.2.2.1),AV.val (.int .i64 a.2.2.2.2.2.1),AV.val (.int .i64 a.2.2.2.2.2.2.1),AV.val (.int .i64 a.2.2.2.2.2.2.2.1),AV.val (.int .i64 a.2.2.2.2.2.2.2.2.1),AV.val (.int .i64 a.2.2.2.2.2.2.2.2.2.1),AV.val (.bool a.2.2.2.2.2.2.2.2.2.2)]])) (iop .add .i64 d 1)
 else
 some (e)):=by kernel_rfl
theorem Znt (a:LL):g11 a =
 (ZgA JD a E0 0):=by kernel_rfl
noncomputable def F53:Fn:=⟨62,[4,5],[(4,[(0,.c (.slice 13)),(3,.box hs18),(6,.c (.int .i64))])],[],0,[],[],Tryz.f53,[.c (.slice 13),.agg hs18],[.c (.own false 40),.c (.bool)],[(110,Zmk.S),(111,Zny.S),(112,ZoQ.S),(11,F11.S),(13,F13.S)]⟩
theorem Zsv:F53.S.Ok Tryz.prog 53:=F53.ok Tryz.func53 (by kernel_rfl) ⟨Zm6,⟨Zp4,⟨ZqN,⟨Zr5,⟨Zpr,trivial⟩⟩⟩⟩⟩
noncomputable def g53 (a:LL) (c d e f h:Int) (j:LL) (k m n o p q:Int) (r:Bool):Option (LL×Bool):=F53.S.g [.l a,.i c,.i d,.i e,.i f,.i h,.l j,.i k,.i m,.i n,.i o,.i p,.i q,.b r]
noncomputable def Zf9 (k:Nat) (a:LL) (c d e f g:Int) (h:LL) (j m n o p q:Int) (r:Bool) (s:Int):Option (LL×Bool):=F53.lp [0,1,0,1,0] 0 r0 k [.l a,.i c,.i d,.i e,.i f,.i g,.l h,.i j,.i m,.i n,.i o,.i p,.i q,.b r,.i s]
theorem ZfO (k:Nat) (d:LL) (e f h i j:Int) (l:LL) (m n o p q r:Int) (s:Bool) (c:Int):Zf9 (k+1) d e f h i j l m n o p q r s c =
 (if (cop .lss c (List.length d:Int)) then
 Zu d c hs18 fun (g:Qt21)=>
 (Zre h i j g.2.2.1 g.2.2.2.1 g.2.2.2.2.1).bind fun w=>
 if (!w) then
 Zf9 k d e f h i j l m n o p q r s (iop .add .i64 c 1)
 else
 ZV ((0:Int)≤c)<|
 ZV ((c:Int)≤(List.length d:Int))<|
 (g11 (List.take (Int.toNat c) d)).bind fun t=>
 (g13 h i j l m n o p q r s).bind fun a=>
 ZV (Yt t (E0++[[AV.val (.int .i64 e),AV.val (.int .i64 f),AV.val (.int .i64 a.1),AV.val (.int .i64 a.2.1),AV.val (.int .i64 a.2.2.1),AV.slice false 3 a.2.2.2.1,AV.val (.int .i64 a.2.2.2.2.1),AV.val (.int .i64 a.2.2.2.2.2.1),AV.val (.int .i64 a.2.2.2.2.2.2.1),AV.val (.int .i64 a.2.2.2.2.2.2.2.1),AV.val (.int .i64 a.2.2.2.2.2.2.2.2.1),AV.val (.int .i64 a.2.2.2.2.2.2.2.2.2.1),AV.val (.bool a.2.2.2.2.2.2.2.2.2.2)]]) 120)<|
 ZV ((0:Int)≤c)<|
 ZV ((c:Int)≤(List.length d:Int))<|
 (g11 (List.drop (Int.toNat c) d)).bind fun u=>
 ZV (Yt (t++(E0++[[AV.val (.int .i64 e),AV.val (.int .i64 f),AV.val (.int .i64 a.1),AV.val (.int .i64 a.2.1),AV.val (.int .i64 a.2.2.1),AV.slice false 3 a.2.2.2.1,AV.val (.int .i64 a.2.2.2.2.1),AV.val (.int .i64 a.2.2.2.2.2.1),AV.val (.int .i64 a.2.2.2.2.2.2.1),AV.val (.int .i64 a.2.2.2.2.2.2.2.1),AV.val (.int .i64 a.2.2.2.2.2.2.2.2.1),AV.val (.int .i64 a.2.2.2.2.2.2.2.2.2.1),AV.val (.bool a.2.2.2.2.2.2.2.2.2.2)]])) u 120)<|
 some (((t++(E0++[[AV.val (.int .i64 e),AV.val (.int .i64 f),AV.val (.int .i64 a.1),AV.val (.int .i64 a.2.1),AV.val (.int .i64 a.2.2.1),AV.slice false 3 a.2.2.2.1,AV.val (.int .i64 a.2.2.2.2.1),AV.val (.int .i64 a.2.2.2.2.2.1),AV.val (.int .i64 a.2.2.2.2.2.2.1),AV.val (.int .i64 a.2.2.2.2.2.2.2.1),AV.val (.int .i64 a.2.2.2.2.2.2.2.2.1),AV.val (.int .i64 a.2.2.2.2.2.2.2.2.2.1),AV.val (.bool a.2.2.2.2.2.2.2.2.2.2)]]))++u),true)
 else
 ZV ((0:Int)≤c)<|
 ZV ((c:Int)≤(List.length d:Int))<|
 (g11 (List.take (Int.toNat c) d)).bind fun g=>
 (g13 h i j l m n o p q r s).bind fun b=>
 ZV (Yt g (E0++[[AV.val (.int .i64 e),AV.val (.int .i64 f),AV.val (.int .i64 b.1),AV.val (.int .i64 b.2.1),AV.val (.int .i64 b.2.2.1),AV.slice false 3 b.2.2.2.1,AV.val (.int .i64 b.2.2.2.2.1),AV.val (.int .i64 b.2.2.2.2.2.1),AV.val (.int .i64 b.2.2.2.2.2.2.1),AV.val (.int .i64 b.2.2.2.2.2.2.2.1),AV.val (.int .i64 b.2.2.2.2.2.2.2.2.1),AV.val (.int .i64 b.2.2.2.2.2.2.2.2.2.1),AV.val (.bool b.2.2.2.2.2.2.2.2.2.2)]]) 120)<|
 ZV ((0:Int)≤c)<|
 ZV ((c:Int)≤(List.length d:Int))<|
 (g11 (List.drop (Int.toNat c) d)).bind fun v=>
 ZV (Yt (g++(E0++[[AV.val (.int .i64 e),AV.val (.int .i64 f),AV.val (.int .i64 b.1),AV.val (.int .i64 b.2.1),AV.val (.int .i64 b.2.2.1),AV.slice false 3 b.2.2.2.1,AV.val (.int .i64 b.2.2.2.2.1),AV.val (.int .i64 b.2.2.2.2.2.1),AV.val (.int .i64 b.2.2.2.2.2.2.1),AV.val (.int .i64 b.2.2.2.2.2.2.2.1),AV.val (.int .i64 b.2.2.2.2.2.2.2.2.1),AV.val (.int .i64 b.2.2.2.2.2.2.2.2.2.1),AV.val (.bool b.2.2.2.2.2.2.2.2.2.2)]])) v 120)<|
 some (((g++(E0++[[AV.val (.int .i64 e),AV.val (.int .i64 f),AV.val (.int .i64 b.1),AV.val (.int .i64 b.2.1),AV.val (.int .i64 b.2.2.1),AV.slice false 3 b.2.2.2.1,AV.val (.int .i64 b.2.2.2.2.1),AV.val (.int .i64 b.2.2.2.2.2.1),AV.val (.int .i64 b.2.2.2.2.2.2.1),AV.val (.int .i64 b.2.2.2.2.2.2.2.1),AV.val (.int .i64 b.2.2.2.2.2.2.2.2.1),AV.val (.int .i64 b.2.2.2.2.2.2.2.2.2.1),AV.val (.bool b.2.2.2.2.2.2.2.2.2.2)]]))++v),true)):=by kernel_rfl
theorem Zmw (a:LL) (b c d e f:Int) (g:LL) (h i j k l m:Int) (n:Bool):g53 a b c d e f g h i j k l m n =
 ((Zov a d e f).bind fun o=>
 if (cop .geq o 0) then
 some (E0,false)
 else
 (ZpF a b c).bind fun p=>
 if (cop .geq p 0) then
 some (E0,false)
 else
 Zf9 JD a b c d e f g h i j k l m n 0):=by kernel_rfl
noncomputable def F80:Fn:=⟨24,[8],[],[],0,[],[],Tryz.f80,[.c (.slice 13),.c (.int .i64),.c (.int .i64),.agg hs19],[.c (.slice 13)],[(53,F53.S)]⟩
theorem ZsM:F80.S.Ok Tryz.prog 80:=F80.ok Tryz.func80 (by kernel_rfl) ⟨Zsv,trivial⟩
noncomputable def g80 (a:LL) (c d e f h:Int) (j:LL) (k m n o p q:Int) (r:Bool):Option (LL):=F80.S.g [.l a,.i c,.i d,.i e,.i f,.i h,.l j,.i k,.i m,.i n,.i o,.i p,.i q,.b r]
theorem Zmq (a:LL) (b c d e f:Int) (g:LL) (h i j k l m:Int) (n:Bool):g80 a b c d e f g h i j k l m n =
 ((g53 a b c d e f g h i j k l m n).bind fun o=>
 if (!o.2) then
 some (a)
 else
 some (o.1)):=by kernel_rfl
noncomputable def F81:Fn:=⟨11,[4],[],[],0,[],[],Tryz.f81,[.agg hs22,.c (.int .i64)],[.agg hs22],[]⟩
theorem Zsy:F81.S.Ok Tryz.prog 81:=F81.ok Tryz.func81 (by kernel_rfl) trivial
noncomputable def g81 (a c d e f h:Int) (j:Bool) (k:Int):Option (Qt26):=F81.S.g [.i a,.i c,.i d,.i e,.i f,.i h,.b j,.i k]
theorem ZnU (a b c d e f:Int) (g:Bool) (h:Int):g81 a b c d e f g h =
 (some (a,b,c,(iop .and .i64 d h),e,f,g)):=by kernel_rfl
noncomputable def Zpc:Fn:=⟨12,[2],[],[],0,[],[],Tryz.f190,[.c (.int .i64)],[.c (.int .i64)],[]⟩
theorem Zqe:Zpc.S.Ok Tryz.prog 190:=Zpc.ok Tryz.func190 (by kernel_rfl) trivial
noncomputable def Zpp (a:Int):Option (Int):=Zpc.S.g [.i a]
theorem Zks (a:Int):Zpp a =
 (if (cop .eql a 3) then
 some (12)
 else
 if (cop .eql a 4) then
 some (6)
 else
 if (cop .eql a 5) then
 some (10)
 else
 if (cop .eql a 6) then
 some (16)
 else
 some (0)):=by kernel_rfl
noncomputable def ZnV:Fn:=⟨35,[4],[],[],0,[],[],Tryz.f143,[.c (.int .i64),.c (.int .i64)],[.c (.bool)],[(190,Zpc.S)]⟩
theorem ZmS:ZnV.S.Ok Tryz.prog 143:=ZnV.ok Tryz.func143 (by kernel_rfl) ⟨Zqe,trivial⟩
noncomputable def ZoZ (a b:Int):Option (Bool):=ZnV.S.g [.i a,.i b]
theorem ZlZ (a b:Int):ZoZ a b =
 (if (cop .eql a 1) then
 if (cop .geq b 6) then
 some ((cop .leq b 40))
 else
 some (false)
 else
 if (cop .eql a 2) then
 if (cop .geq b 12) then
 some ((cop .leq b 40))
 else
 some (false)
 else
 if (cop .geq a 3) then
 if (cop .leq a 6) then
 (Zpp a).bind fun c=>
 some ((cop .eql b c))
 else
 some (false)
 else
 some (false)):=by kernel_rfl
noncomputable def Zna:Fn:=⟨23,[4],[],[],0,[],[],Tryz.f144,[.c (.int .i64),.c (.int .i64)],[.c (.bool)],[]⟩
theorem ZnE:Zna.S.Ok Tryz.prog 144:=Zna.ok Tryz.func144 (by kernel_rfl) trivial
noncomputable def Zox (a b:Int):Option (Bool):=Zna.S.g [.i a,.i b]
theorem ZlN (b a:Int):Zox b a =
 (if (cop .geq a 0) then
 if (cop .eql b 32) then
 if (cop .leq a 1) then
 some (true)
 else
 if (cop .eql b 39) then
 some ((cop .leq a 2))
 else
 some (false)
 else
 if (cop .eql b 39) then
 some ((cop .leq a 2))
 else
 some (false)
 else
 some (false)):=by kernel_rfl
noncomputable def Zma:Fn:=⟨64,[2],[],[],0,[],[],Tryz.f142,[.agg hs22],[.c (.bool)],[(143,ZnV.S),(140,Znk.S),(188,ZkT.S),(144,Zna.S)]⟩
theorem ZlL:Zma.S.Ok Tryz.prog 142:=Zma.ok Tryz.func142 (by kernel_rfl) ⟨ZmS,⟨ZmL,⟨Zjh,⟨ZnE,trivial⟩⟩⟩⟩
noncomputable def ZmN (a c d e f h:Int) (j:Bool):Option (Bool):=Zma.S.g [.i a,.i c,.i d,.i e,.i f,.i h,.b j]
theorem Zly (a g f e c d:Int) (b:Bool):ZmN a g f e c d b =
 ((ZoZ a f).bind fun i=>
 if (!i) then
 some (false)
 else
 (Zig a g f e c d b).bind fun h=>
 (Zka h.1 h.2).bind fun j=>
 if (!j) then
 some (false)
 else
 if (cop .lss e 0) then
 some (false)
 else
 if (cop .gtr e 7) then
 some (false)
 else
 if (cop .eql a 3) then
 (Zox c d).bind fun k=>
 if (!k) then
 some (false)
 else
 if (cop .neq a 3) then
 if (cop .neq c 0) then
 some (false)
 else
 if (cop .neq d 0) then
 some (false)
 else
 if (!b) then
 some (true)
 else
 if (cop .eql a 1) then
 some (true)
 else
 some ((cop .eql a 2))
 else
 if (!b) then
 some (true)
 else
 if (cop .eql a 1) then
 some (true)
 else
 some ((cop .eql a 2))
 else
 if (cop .neq a 3) then
 if (cop .neq c 0) then
 some (false)
 else
 if (cop .neq d 0) then
 some (false)
 else
 if (!b) then
 some (true)
 else
 if (cop .eql a 1) then
 some (true)
 else
 some ((cop .eql a 2))
 else
 if (!b) then
 some (true)
 else
 if (cop .eql a 1) then
 some (true)
 else
 some ((cop .eql a 2))):=by kernel_rfl
noncomputable def F82:Fn:=⟨136,[14,15],[(16,[(1,.c (.int .i64)),(2,.c (.int .i64)),(3,.c (.int .i64)),(4,.c (.int .i64)),(5,.c (.int .i64)),(6,.c (.int .i64)),(7,.box hs22),(16,.c (.bool)),(17,.c (.int .i64)),(19,.c (.own false 36)),(20,.c (.int .i64))])],[],0,[],[],Tryz.f82,[.agg hs22,.c (.int .i64),.c (.int .i64),.c (.int .i64),.c (.int .i64),.c (.int .i64),.c (.int .i64)],[.c (.slice 7),.c (.int .i64)],[(142,Zma.S),(143,ZnV.S),(144,Zna.S)]⟩
theorem Zs1:F82.S.Ok Tryz.prog 82:=F82.ok Tryz.func82 (by kernel_rfl) ⟨ZlL,⟨ZmS,⟨ZnE,trivial⟩⟩⟩
noncomputable def g82 (a c d e f h:Int) (j:Bool) (k l m n o p:Int):Option (LL×Int):=F82.S.g [.i a,.i c,.i d,.i e,.i f,.i h,.b j,.i k,.i l,.i m,.i n,.i o,.i p]
noncomputable def Kl (k:Nat) (a c d e f g h j m n o p:Int) (q r:Bool) (s:Int) (t:LL) (u:Int):Option (LL×Int):=F82.lp [0,1,1,1,0,1,0,0,1,1,1,1,0,0,1,3,1,1,1,0,1,0] 0 r0 k [.i a,.i c,.i d,.i e,.i f,.i g,.i h,.i j,.i m,.i n,.i o,.i p,.b q,.b r,.i s,.l t,.i u]
theorem ZfL (k:Nat) (b c j l d m o e p f q r:Int) (g n:Bool) (h:Int) (i:LL) (a:Int):Kl (k+1) b c j l d m o e p f q r g n h i a =
 (if (cop .lss a m) then
 if n then
 ZV (Yt i (E0++[[AV.val (.int .i64 b),AV.val (.int .i64 (iop .add .i64 (iop .add .i64 e d) (iop .mul .i64 a h))),AV.val (.int .i64 c),AV.val (.int .i64 f),AV.val (.int .i64 l),AV.val (.int .i64 j),AV.val (.bool g)]]) 56)<|
 Kl k b c j l d m o e p f q r g n h (i++(E0++[[AV.val (.int .i64 b),AV.val (.int .i64 (iop .add .i64 (iop .add .i64 e d) (iop .mul .i64 a h))),AV.val (.int .i64 c),AV.val (.int .i64 f),AV.val (.int .i64 l),AV.val (.int .i64 j),AV.val (.bool g)]])) (iop .add .i64 a 1)
 else
 ZV (Yt i (E0++[[AV.val (.int .i64 b),AV.val (.int .i64 (iop .add .i64 (iop .add .i64 e d) (iop .mul .i64 a h))),AV.val (.int .i64 c),AV.val (.int .i64 f),AV.val (.int .i64 0),AV.val (.int .i64 0),AV.val (.bool g)]]) 56)<|
 Kl k b c j l d m o e p f q r g n h (i++(E0++[[AV.val (.int .i64 b),AV.val (.int .i64 (iop .add .i64 (iop .add .i64 e d) (iop .mul .i64 a h))),AV.val (.int .i64 c),AV.val (.int .i64 f),AV.val (.int .i64 0),AV.val (.int .i64 0),AV.val (.bool g)]])) (iop .add .i64 a 1)
 else
 some (i,0)):=by kernel_rfl
theorem Zoe (g i b h j k:Int) (f:Bool) (c a l m d e:Int):g82 g i b h j k f c a l m d e =
 ((ZmN g i b h j k f).bind fun n=>
 if (!n) then
 some (E0,5)
 else
 if (cop .neq g 1) then
 some (E0,5)
 else
 if (cop .eql (iop .and .i64 h 2) 0) then
 some (E0,8)
 else
 (ZoZ c a).bind fun o=>
 if (!o) then
 some (E0,1)
 else
 if (cop .eql c 3) then
 (Zox m l).bind fun p=>
 if (!p) then
 some (E0,1)
 else
 if (cop .lss e 1) then
 some (E0,1)
 else
 if (cop .gtr e 8) then
 some (E0,1)
 else
 if (cop .lss d 0) then
 some (E0,1)
 else
 if f then
 if (cop .neq c 1) then
 if (cop .neq c 2) then
 some (E0,5)
 else
 ZV ((0:Int)≤(IntKind.wrap .u64 a))<|
 ZV ((0:Int)≤(IntKind.wrap .u64 b))<|
 ZV (((iop .shl .i64 1 (IntKind.wrap .u64 a)):Int)≠0)<|
 if (cop .neq (iop .rem .i64 d (iop .shl .i64 1 (IntKind.wrap .u64 a))) 0) then
 some (E0,6)
 else
 if (cop .gtr d (iop .shl .i64 1 (IntKind.wrap .u64 b))) then
 some (E0,6)
 else
 if (cop .gtr (iop .mul .i64 e (iop .shl .i64 1 (IntKind.wrap .u64 a))) (iop .sub .i64 (iop .shl .i64 1 (IntKind.wrap .u64 b)) d)) then
 some (E0,6)
 else
 if (cop .eql c 1) then
 if (cop .geq a b) then
 some (E0,6)
 else
 Kl JD c a l m d e g i b h j k f (cop .eql c 3) (iop .shl .i64 1 (IntKind.wrap .u64 a)) E0 0
 else
 Kl JD c a l m d e g i b h j k f (cop .eql c 3) (iop .shl .i64 1 (IntKind.wrap .u64 a)) E0 0
 else
 ZV ((0:Int)≤(IntKind.wrap .u64 a))<|
 ZV ((0:Int)≤(IntKind.wrap .u64 b))<|
 ZV (((iop .shl .i64 1 (IntKind.wrap .u64 a)):Int)≠0)<|
 if (cop .neq (iop .rem .i64 d (iop .shl .i64 1 (IntKind.wrap .u64 a))) 0) then
 some (E0,6)
 else
 if (cop .gtr d (iop .shl .i64 1 (IntKind.wrap .u64 b))) then
 some (E0,6)
 else
 if (cop .gtr (iop .mul .i64 e (iop .shl .i64 1 (IntKind.wrap .u64 a))) (iop .sub .i64 (iop .shl .i64 1 (IntKind.wrap .u64 b)) d)) then
 some (E0,6)
 else
 if (cop .eql c 1) then
 if (cop .geq a b) then
 some (E0,6)
 else
 Kl JD c a l m d e g i b h j k f (cop .eql c 3) (iop .shl .i64 1 (IntKind.wrap .u64 a)) E0 0
 else
 Kl JD c a l m d e g i b h j k f (cop .eql c 3) (iop .shl .i64 1 (IntKind.wrap .u64 a)) E0 0
 else
 ZV ((0:Int)≤(IntKind.wrap .u64 a))<|
 ZV ((0:Int)≤(IntKind.wrap .u64 b))<|
 ZV (((iop .shl .i64 1 (IntKind.wrap .u64 a)):Int)≠0)<|
 if (cop .neq (iop .rem .i64 d (iop .shl .i64 1 (IntKind.wrap .u64 a))) 0) then
 some (E0,6)
 else
 if (cop .gtr d (iop .shl .i64 1 (IntKind.wrap .u64 b))) then
 some (E0,6)
 else
 if (cop .gtr (iop .mul .i64 e (iop .shl .i64 1 (IntKind.wrap .u64 a))) (iop .sub .i64 (iop .shl .i64 1 (IntKind.wrap .u64 b)) d)) then
 some (E0,6)
 else
 if (cop .eql c 1) then
 if (cop .geq a b) then
 some (E0,6)
 else
 Kl JD c a l m d e g i b h j k f (cop .eql c 3) (iop .shl .i64 1 (IntKind.wrap .u64 a)) E0 0
 else
 Kl JD c a l m d e g i b h j k f (cop .eql c 3) (iop .shl .i64 1 (IntKind.wrap .u64 a)) E0 0
 else
 if (cop .lss e 1) then
 some (E0,1)
 else
 if (cop .gtr e 8) then
 some (E0,1)
 else
 if (cop .lss d 0) then
 some (E0,1)
 else
 if f then
 if (cop .neq c 1) then
 if (cop .neq c 2) then
 some (E0,5)
 else
 ZV ((0:Int)≤(IntKind.wrap .u64 a))<|
 ZV ((0:Int)≤(IntKind.wrap .u64 b))<|
 ZV (((iop .shl .i64 1 (IntKind.wrap .u64 a)):Int)≠0)<|
 if (cop .neq (iop .rem .i64 d (iop .shl .i64 1 (IntKind.wrap .u64 a))) 0) then
 some (E0,6)
 else
 if (cop .gtr d (iop .shl .i64 1 (IntKind.wrap .u64 b))) then
 some (E0,6)
 else
 if (cop .gtr (iop .mul .i64 e (iop .shl .i64 1 (IntKind.wrap .u64 a))) (iop .sub .i64 (iop .shl .i64 1 (IntKind.wrap .u64 b)) d)) then
 some (E0,6)
 else
 if (cop .eql c 1) then
 if (cop .geq a b) then
 some (E0,6)
 else
 Kl JD c a l m d e g i b h j k f (cop .eql c 3) (iop .shl .i64 1 (IntKind.wrap .u64 a)) E0 0
 else
 Kl JD c a l m d e g i b h j k f (cop .eql c 3) (iop .shl .i64 1 (IntKind.wrap .u64 a)) E0 0
 else
 ZV ((0:Int)≤(IntKind.wrap .u64 a))<|
 ZV ((0:Int)≤(IntKind.wrap .u64 b))<|
 ZV (((iop .shl .i64 1 (IntKind.wrap .u64 a)):Int)≠0)<|
 if (cop .neq (iop .rem .i64 d (iop .shl .i64 1 (IntKind.wrap .u64 a))) 0) then
 some (E0,6)
 else
 if (cop .gtr d (iop .shl .i64 1 (IntKind.wrap .u64 b))) then
 some (E0,6)
 else
 if (cop .gtr (iop .mul .i64 e (iop .shl .i64 1 (IntKind.wrap .u64 a))) (iop .sub .i64 (iop .shl .i64 1 (IntKind.wrap .u64 b)) d)) then
 some (E0,6)
 else
 if (cop .eql c 1) then
 if (cop .geq a b) then
 some (E0,6)
 else
 Kl JD c a l m d e g i b h j k f (cop .eql c 3) (iop .shl .i64 1 (IntKind.wrap .u64 a)) E0 0
 else
 Kl JD c a l m d e g i b h j k f (cop .eql c 3) (iop .shl .i64 1 (IntKind.wrap .u64 a)) E0 0
 else
 ZV ((0:Int)≤(IntKind.wrap .u64 a))<|
 ZV ((0:Int)≤(IntKind.wrap .u64 b))<|
 ZV (((iop .shl .i64 1 (IntKind.wrap .u64 a)):Int)≠0)<|
 if (cop .neq (iop .rem .i64 d (iop .shl .i64 1 (IntKind.wrap .u64 a))) 0) then
 some (E0,6)
 else
 if (cop .gtr d (iop .shl .i64 1 (IntKind.wrap .u64 b))) then
 some (E0,6)
 else
 if (cop .gtr (iop .mul .i64 e (iop .shl .i64 1 (IntKind.wrap .u64 a))) (iop .sub .i64 (iop .shl .i64 1 (IntKind.wrap .u64 b)) d)) then
 some (E0,6)
 else
 if (cop .eql c 1) then
 if (cop .geq a b) then
 some (E0,6)
 else
 Kl JD c a l m d e g i b h j k f (cop .eql c 3) (iop .shl .i64 1 (IntKind.wrap .u64 a)) E0 0
 else
 Kl JD c a l m d e g i b h j k f (cop .eql c 3) (iop .shl .i64 1 (IntKind.wrap .u64 a)) E0 0):=by kernel_rfl
noncomputable def Zoo:Fn:=⟨31,[2],[],[],0,[],[],Tryz.f145,[.agg [.int .i64,.int .i64,.int .i64]],[.c (.bool)],[]⟩
theorem Zng:Zoo.S.Ok Tryz.prog 145:=Zoo.ok Tryz.func145 (by kernel_rfl) trivial
noncomputable def ZmR (a b c:Int):Option (Bool):=Zoo.S.g [.i a,.i b,.i c]
theorem ZkS (a b c:Int):ZmR a b c =
 (if (cop .geq a 0) then
 if (cop .lss a 32) then
 if (cop .geq b 1) then
 if (cop .leq b 1073741824) then
 if (cop .geq c 0) then
 some ((cop .lss c 8))
 else
 some (false)
 else
 some (false)
 else
 some (false)
 else
 some (false)
 else
 some (false)):=by kernel_rfl
noncomputable def F16:Fn:=⟨18,[4],[(2,[(0,.c (.slice 3)),(3,.box [.int .i64,.int .i64,.int .i64]),(5,.c (.int .i64))])],[],0,[],[],Tryz.f16,[.c (.slice 3),.agg [.int .i64,.int .i64,.int .i64]],[.c (.bool)],[]⟩
theorem ZrV:F16.S.Ok Tryz.prog 16:=F16.ok Tryz.func16 (by kernel_rfl) trivial
noncomputable def g16 (a:LL) (b c d:Int):Option (Bool):=F16.S.g [.l a,.i b,.i c,.i d]
noncomputable def ZjM (k:Nat) (a:LL) (b c d e:Int):Option (Bool):=F16.lp [0] 0 r0 k [.l a,.i b,.i c,.i d,.i e]
theorem ZfV (k:Nat) (a:LL) (c d e b:Int):ZjM (k+1) a c d e b =
 (if (cop .lss b (List.length a:Int)) then
 Zu a b [.int .i64,.int .i64,.int .i64] fun (f:Int×Int×Int)=>
 if ((cop .eql f.1 c)&&((cop .eql f.2.1 d)&&((cop .eql f.2.2 e)&&true))) then
 some (true)
 else
 ZjM k a c d e (iop .add .i64 b 1)
 else
 some (false)):=by kernel_rfl
theorem ZmD (a:LL) (b c d:Int):g16 a b c d =
 (ZjM JD a b c d 0):=by kernel_rfl
noncomputable def Zm4:Fn:=⟨53,[2],[(4,[(1,.box hs19),(3,.c (.int .i64))])],[],0,[],[],Tryz.f120,[.agg hs19],[.c (.bool)],[(145,Zoo.S),(142,Zma.S),(16,F16.S)]⟩
theorem Zrx:Zm4.S.Ok Tryz.prog 120:=Zm4.ok Tryz.func120 (by kernel_rfl) ⟨Zng,⟨ZlL,⟨ZrV,trivial⟩⟩⟩
noncomputable def Zqb (a c d:Int) (e:LL) (f h j k m n:Int) (o:Bool):Option (Bool):=Zm4.S.g [.i a,.i c,.i d,.l e,.i f,.i h,.i j,.i k,.i m,.i n,.b o]
noncomputable def Ze3 (k:Nat) (a c d:Int) (e:LL) (f g h j m n:Int) (o:Bool) (p:Int):Option (Bool):=Zm4.lp [0,1,0,1,1,0,1,0] 0 r0 k [.i a,.i c,.i d,.l e,.i f,.i g,.i h,.i j,.i m,.i n,.b o,.i p]
theorem Zdk (k:Nat) (e f g:Int) (b:LL) (h i j l m n:Int) (o:Bool) (a:Int):Ze3 (k+1) e f g b h i j l m n o a =
 (if (cop .lss a (List.length b:Int)) then
 Zu b a [.int .i64,.int .i64,.int .i64] fun (c:Int×Int×Int)=>
 (ZmR c.1 c.2.1 c.2.2).bind fun p=>
 if (!p) then
 some (false)
 else
 ZV ((0:Int)≤a)<|
 ZV ((a:Int)≤(List.length b:Int))<|
 Zu b a [.int .i64,.int .i64,.int .i64] fun (d:Int×Int×Int)=>
 (g16 (List.take (Int.toNat a) b) d.1 d.2.1 d.2.2).bind fun q=>
 if q then
 some (false)
 else
 Ze3 k e f g b h i j l m n o (iop .add .i64 a 1)
 else
 some (true)):=by kernel_rfl
theorem ZlD (a b c:Int) (d:LL) (e f g h i j:Int) (k:Bool):Zqb a b c d e f g h i j k =
 ((ZmR a b c).bind fun l=>
 if (!l) then
 some (false)
 else
 (ZmN e f g h i j k).bind fun m=>
 if (!m) then
 some (false)
 else
 if (cop .gtr (List.length d:Int) 8) then
 some (false)
 else
 (g16 d a b c).bind fun n=>
 if n then
 some (false)
 else
 Ze3 JD a b c d e f g h i j k 0):=by kernel_rfl
noncomputable def F83:Fn:=⟨49,[6,7],[],[],0,[],[],Tryz.f83,[.agg hs19,.agg [.int .i64,.int .i64,.int .i64],.agg hs22],[.agg hs19,.c (.int .i64)],[(120,Zm4.S),(145,Zoo.S),(142,Zma.S),(16,F16.S),(39,F39.S)]⟩
theorem Zsg:F83.S.Ok Tryz.prog 83:=F83.ok Tryz.func83 (by kernel_rfl) ⟨Zrx,⟨Zng,⟨ZlL,⟨ZrV,⟨ZrZ,trivial⟩⟩⟩⟩⟩
noncomputable def g83 (a c d:Int) (e:LL) (f h j k m n:Int) (o:Bool) (p q r s t u v w x:Int) (y:Bool):Option (Qt23):=F83.S.g [.i a,.i c,.i d,.l e,.i f,.i h,.i j,.i k,.i m,.i n,.b o,.i p,.i q,.i r,.i s,.i t,.i u,.i v,.i w,.i x,.b y]
theorem Znn (a b c:Int) (d:LL) (o p q r s t:Int) (u:Bool) (e f g h i j k l m:Int) (n:Bool):g83 a b c d o p q r s t u e f g h i j k l m n =
 ((Zqb a b c d o p q r s t u).bind fun w=>
 if (!w) then
 some (0,0,0,E0,0,0,0,0,0,0,false,1)
 else
 (ZmR e f g).bind fun x=>
 if (!x) then
 some (0,0,0,E0,0,0,0,0,0,0,false,1)
 else
 (ZmN h i j k l m n).bind fun y=>
 if (!y) then
 some (0,0,0,E0,0,0,0,0,0,0,false,1)
 else
 if ((cop .eql e a)&&((cop .eql f b)&&((cop .eql g c)&&true))) then
 some (0,0,0,E0,0,0,0,0,0,0,false,1)
 else
 (g16 d e f g).bind fun z=>
 if z then
 some (0,0,0,E0,0,0,0,0,0,0,false,1)
 else
 if (cop .eql (List.length d:Int) 8) then
 some (0,0,0,E0,0,0,0,0,0,0,false,9)
 else
 (g39 d).bind fun v=>
 ZV (Yt v (E0++[[AV.val (.int .i64 a),AV.val (.int .i64 b),AV.val (.int .i64 c)]]) 24)<|
 some (e,f,g,(v++(E0++[[AV.val (.int .i64 a),AV.val (.int .i64 b),AV.val (.int .i64 c)]])),h,i,j,k,l,m,n,0)):=by kernel_rfl
noncomputable def F37:Fn:=⟨146,[6],[(18,[(0,.c (.slice 13)),(2,.c (.int .i64)),(7,.c (.int .i64)),(8,.c (.int .i64)),(10,.box hs19),(11,.c (.slice 7)),(16,.c (.int .i64))])],[],0,[],[],Tryz.f37,[.c (.slice 13),.agg hs20,.c (.int .i64)],[.c (.slice 13)],[(12,F12.S),(78,F78.S),(79,F79.S),(80,F80.S),(81,F81.S),(82,F82.S),(83,F83.S)]⟩
theorem Zsr:F37.S.Ok Tryz.prog 37:=F37.ok Tryz.func37 (by kernel_rfl) ⟨Zq8,⟨Zsn,⟨ZsV,⟨ZsM,⟨Zsy,⟨Zs1,⟨Zsg,trivial⟩⟩⟩⟩⟩⟩⟩
noncomputable def g37 (a:LL) (c:Bool) (d e f h j k m n:Int) (o:Bool) (p:Int):Option (LL):=F37.S.g [.l a,.b c,.i d,.i e,.i f,.i h,.i j,.i k,.i m,.i n,.b o,.i p]
noncomputable def Zda (k:Nat) (a:LL) (c d e f g h:Int) (j:LL) (m n o p q r:Int) (s:Bool) (t:LL) (u:Int):Option (LL):=F37.lp [2,1,1,5,8,1,0,1,0] 0 r0 k [.l a,.i c,.i d,.i e,.i f,.i g,.i h,.l j,.i m,.i n,.i o,.i p,.i q,.i r,.b s,.l t,.i u]
theorem Zfs (k:Nat) (d:LL) (g e h i j l:Int) (m:LL) (n o p q r s:Int) (t:Bool) (f:LL) (c:Int):Zda (k+1) d g e h i j l m n o p q r s t f c =
 (if (cop .lss c (List.length f:Int)) then
 Zu f c hs22 fun (b:Qt26)=>
 (g83 i j l m n o p q r s t e g c b.1 b.2.1 b.2.2.1 b.2.2.2.1 b.2.2.2.2.1 b.2.2.2.2.2.1 b.2.2.2.2.2.2).bind fun a=>
 if (cop .neq a.2.2.2.2.2.2.2.2.2.2.2 0) then
 some (d)
 else
 (g80 d e (iop .add .i64 h c) a.1 a.2.1 a.2.2.1 a.2.2.2.1 a.2.2.2.2.1 a.2.2.2.2.2.1 a.2.2.2.2.2.2.1 a.2.2.2.2.2.2.2.1 a.2.2.2.2.2.2.2.2.1 a.2.2.2.2.2.2.2.2.2.1 a.2.2.2.2.2.2.2.2.2.2.1).bind fun u=>
 Zda k u g e h i j l m n o p q r s t f (iop .add .i64 c 1)
 else
 some (d)):=by kernel_rfl
theorem ZnH (c:LL) (o:Bool) (p q r s g h t j:Int) (u:Bool) (f:Int):g37 c o p q r s g h t j u f =
 ((g12 q 4).bind fun e=>
 (g12 r 8).bind fun i=>
 if o then
 (g78 g h).bind fun b=>
 (g79 c 0 0 0 (E0++[[AV.val (.int .i64 b.1),AV.val (.int .i64 b.2.1),AV.val (.int .i64 b.2.2.1),AV.val (.int .i64 b.2.2.2.1),AV.val (.int .i64 b.2.2.2.2.1),AV.val (.int .i64 b.2.2.2.2.2.1),AV.val (.bool b.2.2.2.2.2.2)]])).bind fun k=>
 if k then
 some (c)
 else
 (g80 c e i e f 0 E0 b.1 b.2.1 b.2.2.1 b.2.2.2.1 b.2.2.2.2.1 b.2.2.2.2.2.1 b.2.2.2.2.2.2).bind fun l=>
 some (l)
 else
 if (cop .eql (List.length c:Int) 0) then
 (g78 g h).bind fun b=>
 (g79 c 0 0 0 (E0++[[AV.val (.int .i64 b.1),AV.val (.int .i64 b.2.1),AV.val (.int .i64 b.2.2.1),AV.val (.int .i64 b.2.2.2.1),AV.val (.int .i64 b.2.2.2.2.1),AV.val (.int .i64 b.2.2.2.2.2.1),AV.val (.bool b.2.2.2.2.2.2)]])).bind fun k=>
 if k then
 some (c)
 else
 (g80 c e i e f 0 E0 b.1 b.2.1 b.2.2.1 b.2.2.2.1 b.2.2.2.2.1 b.2.2.2.2.2.1 b.2.2.2.2.2.2).bind fun l=>
 some (l)
 else
 (g12 p (List.length c:Int)).bind fun b=>
 Zu c b hs18 fun (a:Qt21)=>
 (g12 j 8).bind fun w=>
 (g81 a.2.2.2.2.2.2.1 a.2.2.2.2.2.2.2.1 a.2.2.2.2.2.2.2.2.1 a.2.2.2.2.2.2.2.2.2.1 a.2.2.2.2.2.2.2.2.2.2.1 a.2.2.2.2.2.2.2.2.2.2.2.1 (d4 (d8 a)) w).bind fun d=>
 if (!u) then
 (g12 s 6).bind fun v=>
 (g12 h 10).bind fun x=>
 Zu ((((((E0++[[AV.val (.int .i64 (iop .add .i64 6 x))]])++[[AV.val (.int .i64 12)]])++[[AV.val (.int .i64 12)]])++[[AV.val (.int .i64 6)]])++[[AV.val (.int .i64 10)]])++[[AV.val (.int .i64 16)]]) (iop .sub .i64 (iop .add .i64 1 v) 1) [.int .i64] fun (m:Int)=>
 (g12 j 2).bind fun y=>
 (g12 g 8).bind fun z=>
 ZV ((0:Int)≤(IntKind.wrap .u64 m))<|
 (g12 t 3).bind fun A=>
 (g82 a.2.2.2.2.2.2.1 a.2.2.2.2.2.2.2.1 a.2.2.2.2.2.2.2.2.1 a.2.2.2.2.2.2.2.2.2.1 a.2.2.2.2.2.2.2.2.2.2.1 a.2.2.2.2.2.2.2.2.2.2.2.1 (d4 (d8 a)) (iop .add .i64 1 v) m y 32 (iop .shl .i64 z (IntKind.wrap .u64 m)) (iop .add .i64 1 A)).bind fun n=>
 if (cop .neq n.2 0) then
 some (c)
 else
 (g79 c a.2.2.1 a.2.2.2.1 a.2.2.2.2.1 n.1).bind fun C=>
 if C then
 some (c)
 else
 Zda JD c f e i a.2.2.1 a.2.2.2.1 a.2.2.2.2.1 a.2.2.2.2.2.1 a.2.2.2.2.2.2.1 a.2.2.2.2.2.2.2.1 a.2.2.2.2.2.2.2.2.1 a.2.2.2.2.2.2.2.2.2.1 a.2.2.2.2.2.2.2.2.2.2.1 a.2.2.2.2.2.2.2.2.2.2.2.1 (d4 (d8 a)) n.1 0
 else
 Zda JD c f e i a.2.2.1 a.2.2.2.1 a.2.2.2.2.1 a.2.2.2.2.2.1 a.2.2.2.2.2.2.1 a.2.2.2.2.2.2.2.1 a.2.2.2.2.2.2.2.2.1 a.2.2.2.2.2.2.2.2.2.1 a.2.2.2.2.2.2.2.2.2.2.1 a.2.2.2.2.2.2.2.2.2.2.2.1 (d4 (d8 a)) (E0++[[AV.val (.int .i64 d.1),AV.val (.int .i64 d.2.1),AV.val (.int .i64 d.2.2.1),AV.val (.int .i64 d.2.2.2.1),AV.val (.int .i64 d.2.2.2.2.1),AV.val (.int .i64 d.2.2.2.2.2.1),AV.val (.bool d.2.2.2.2.2.2)]]) 0):=by kernel_rfl
noncomputable def F7:Fn:=⟨29,[2],[(3,[(0,.c (.slice 10)),(3,.c (.slice 13)),(4,.c (.int .i64))])],[],0,[],[],Tryz.f7,[.c (.slice 10)],[.c (.slice 13)],[(37,F37.S)]⟩
theorem ok7:F7.S.Ok Tryz.prog 7:=F7.ok Tryz.func7 (by kernel_rfl) ⟨Zsr,trivial⟩
noncomputable def g7 (a:LL):Option (LL):=F7.S.g [.l a]
noncomputable def ZoR (k:Nat) (a b:LL) (c:Int):Option (LL):=F7.lp [0] 0 r0 k [.l a,.l b,.i c]
theorem Zg1 (k:Nat) (d b:LL) (c:Int):ZoR (k+1) d b c =
 (if (cop .lss c (List.length d:Int)) then
 if (cop .lss c 40) then
 if (cop .lss (List.length b:Int) 24) then
 Zu d c hs20 fun (a:Bool×Int×Int×Int×Int×Int×Int×Int×Int×Bool)=>
 (g37 b a.1 a.2.1 a.2.2.1 a.2.2.2.1 a.2.2.2.2.1 a.2.2.2.2.2.1 a.2.2.2.2.2.2.1 a.2.2.2.2.2.2.2.1 a.2.2.2.2.2.2.2.2.1 a.2.2.2.2.2.2.2.2.2 (iop .add .i64 c 1)).bind fun e=>
 ZoR k d e (iop .add .i64 c 1)
 else
 some (b)
 else
 some (b)
 else
 some (b)):=by kernel_rfl
theorem Zq9 (a:LL):g7 a =
 (ZoR JD a E0 0):=by kernel_rfl
noncomputable def ZnL:Fn:=⟨26,[4],[(4,[(0,.c (.slice 3)),(1,.c (.slice 3)),(5,.c (.int .i64))])],[],0,[],[],Tryz.f107,[.c (.slice 3),.c (.slice 3)],[.c (.bool)],[]⟩
theorem Zri:ZnL.S.Ok Tryz.prog 107:=ZnL.ok Tryz.func107 (by kernel_rfl) trivial
noncomputable def ZqP (a b:LL):Option (Bool):=ZnL.S.g [.l a,.l b]
noncomputable def ZfS (k:Nat) (a b:LL) (c:Int):Option (Bool):=ZnL.lp [1,0] 0 r0 k [.l a,.l b,.i c]
theorem Zdn (k:Nat) (b c:LL) (a:Int):ZfS (k+1) b c a =
 (if (cop .lss a (List.length b:Int)) then
 Zu b a [.int .i64,.int .i64,.int .i64] fun (d:Int×Int×Int)=>
 Zu c a [.int .i64,.int .i64,.int .i64] fun (e:Int×Int×Int)=>
 if (!((cop .eql d.1 e.1)&&((cop .eql d.2.1 e.2.1)&&((cop .eql d.2.2 e.2.2)&&true)))) then
 some (false)
 else
 ZfS k b c (iop .add .i64 a 1)
 else
 some (true)):=by kernel_rfl
theorem Zk8 (a b:LL):ZqP a b =
 (if (cop .neq (List.length a:Int) (List.length b:Int)) then
 some (false)
 else
 ZfS JD a b 0):=by kernel_rfl
noncomputable def F50:Fn:=⟨24,[4],[],[],0,[],[],Tryz.f50,[.agg hs19,.agg hs19],[.c (.bool)],[(107,ZnL.S)]⟩
theorem Zsm:F50.S.Ok Tryz.prog 50:=F50.ok Tryz.func50 (by kernel_rfl) ⟨Zri,trivial⟩
noncomputable def g50 (a c d:Int) (e:LL) (f h j k m n:Int) (o:Bool) (p q r:Int) (s:LL) (t u v w x y:Int) (z:Bool):Option (Bool):=F50.S.g [.i a,.i c,.i d,.l e,.i f,.i h,.i j,.i k,.i m,.i n,.b o,.i p,.i q,.i r,.l s,.i t,.i u,.i v,.i w,.i x,.i y,.b z]
theorem Zon (a b c:Int) (d:LL) (e f g h i j:Int) (k:Bool) (l m n:Int) (o:LL) (p q r s t u:Int) (v:Bool):g50 a b c d e f g h i j k l m n o p q r s t u v =
 (if ((cop .eql a l)&&((cop .eql b m)&&((cop .eql c n)&&true))) then
 if ((cop .eql e p)&&((cop .eql f q)&&((cop .eql g r)&&((cop .eql h s)&&((cop .eql i t)&&((cop .eql j u)&&((k == v)&&true))))))) then
 (ZqP d o).bind fun w=>
 some (w)
 else
 some (false)
 else
 some (false)):=by kernel_rfl
noncomputable def F20:Fn:=⟨55,[4],[(4,[(0,.c (.slice 13)),(1,.c (.slice 13)),(5,.c (.int .i64))])],[],0,[],[],Tryz.f20,[.c (.slice 13),.c (.slice 13)],[.c (.bool)],[(50,F50.S)]⟩
theorem Zs4:F20.S.Ok Tryz.prog 20:=F20.ok Tryz.func20 (by kernel_rfl) ⟨Zsm,trivial⟩
noncomputable def g20 (a b:LL):Option (Bool):=F20.S.g [.l a,.l b]
noncomputable def ZjN (k:Nat) (a b:LL) (c:Int):Option (Bool):=F20.lp [1,0] 0 r0 k [.l a,.l b,.i c]
theorem Zi6 (k:Nat) (d e:LL) (c:Int):ZjN (k+1) d e c =
 (if (cop .lss c (List.length d:Int)) then
 Zu d c hs18 fun (f:Qt21)=>
 Zu e c hs18 fun (g:Qt21)=>
 if (cop .neq f.1 g.1) then
 some (false)
 else
 Zu d c hs18 fun (h:Qt21)=>
 Zu e c hs18 fun (i:Qt21)=>
 if (cop .neq h.2.1 i.2.1) then
 some (false)
 else
 Zu d c hs18 fun (a:Qt21)=>
 Zu e c hs18 fun (b:Qt21)=>
 (g50 a.2.2.1 a.2.2.2.1 a.2.2.2.2.1 a.2.2.2.2.2.1 a.2.2.2.2.2.2.1 a.2.2.2.2.2.2.2.1 a.2.2.2.2.2.2.2.2.1 a.2.2.2.2.2.2.2.2.2.1 a.2.2.2.2.2.2.2.2.2.2.1 a.2.2.2.2.2.2.2.2.2.2.2.1 (d4 (d8 a)) b.2.2.1 b.2.2.2.1 b.2.2.2.2.1 b.2.2.2.2.2.1 b.2.2.2.2.2.2.1 b.2.2.2.2.2.2.2.1 b.2.2.2.2.2.2.2.2.1 b.2.2.2.2.2.2.2.2.2.1 b.2.2.2.2.2.2.2.2.2.2.1 b.2.2.2.2.2.2.2.2.2.2.2.1 (d4 (d8 b))).bind fun j=>
 if (!j) then
 some (false)
 else
 ZjN k d e (iop .add .i64 c 1)
 else
 some (true)):=by kernel_rfl
theorem ZnT (a b:LL):g20 a b =
 (if (cop .neq (List.length a:Int) (List.length b:Int)) then
 some (false)
 else
 ZjN JD a b 0):=by kernel_rfl
noncomputable def F4:Fn:=⟨164,[10],[],[],0,[],[],Tryz.f4,[.c (.slice 10),.c (.int .i64),.c (.int .i64),.c (.int .i64),.c (.int .i64)],[.c (.bool)],[(7,F7.S),(8,F8.S),(10,F10.S),(11,F11.S),(9,F9.S),(12,F12.S),(13,F13.S),(14,F14.S),(21,F21.S),(18,F18.S),(20,F20.S)]⟩
theorem ok4:F4.S.Ok Tryz.prog 4:=F4.ok Tryz.func4 (by kernel_rfl) ⟨ok7,⟨ok8,⟨Zr1,⟨Zr5,⟨ok9,⟨Zq8,⟨Zpr,⟨ZrQ,⟨ZrL,⟨ZrN,⟨Zs4,trivial⟩⟩⟩⟩⟩⟩⟩⟩⟩⟩⟩
noncomputable def g4 (a:LL) (b c d e:Int):Option (Bool):=F4.S.g [.l a,.i b,.i c,.i d,.i e]
theorem Zpu (l:LL) (m n o p:Int):g4 l m n o p =
 ((g7 l).bind fun g=>
 if (cop .eql (List.length g:Int) 0) then
 (g8).bind fun h=>
 some (h)
 else
 (g10).bind fun h=>
 (g11 g).bind fun r=>
 (g9 0 h.1 h.2.1 h.2.2 r).bind fun d=>
 (g12 m (List.length g:Int)).bind fun s=>
 Zu g s hs18 fun (e:Qt21)=>
 (g12 n 4).bind fun i=>
 (g13 e.2.2.1 e.2.2.2.1 e.2.2.2.2.1 e.2.2.2.2.2.1 e.2.2.2.2.2.2.1 e.2.2.2.2.2.2.2.1 e.2.2.2.2.2.2.2.2.1 e.2.2.2.2.2.2.2.2.2.1 e.2.2.2.2.2.2.2.2.2.2.1 e.2.2.2.2.2.2.2.2.2.2.2.1 (d4 (d8 e))).bind fun f=>
 (g12 o 8).bind fun t=>
 (g14 d.1 d.2.1 d.2.2.1 d.2.2.2.1 d.2.2.2.2.1 d.2.2.2.2.2.1 d.2.2.2.2.2.2.1 d.2.2.2.2.2.2.2.1 d.2.2.2.2.2.2.2.2.1 d.2.2.2.2.2.2.2.2.2.1 d.2.2.2.2.2.2.2.2.2.2.1 d.2.2.2.2.2.2.2.2.2.2.2.1 (d4 (d8 d)).1 (d4 (d8 d)).2.1 (d2 (d4 (d8 d))).1 (d2 (d4 (d8 d))).2.1 (d16 d).1 (d16 d).2.1 (d2 (d16 d)).1 (d2 (d16 d)).2.1 (d4 (d16 d)).1 (d4 (d16 d)).2.1 (d2 (d4 (d16 d))).1 (d2 (d4 (d16 d))).2.1 (d8 (d16 d)).1 (d8 (d16 d)).2.1 (d2 (d8 (d16 d))).1 (d2 (d8 (d16 d))).2.1 (d4 (d8 (d16 d))).1 (d4 (d8 (d16 d))).2.1 (d2 (d4 (d8 (d16 d)))).1 (d2 (d4 (d8 (d16 d)))).2.1 (d16 (d16 d)).1 (d16 (d16 d)).2.1 (d2 (d16 (d16 d))).1 (d2 (d16 (d16 d))).2.1 (d4 (d16 (d16 d))).1 (d4 (d16 (d16 d))).2 e.1 100 0 4 e.2.1 t (iop .add .i64 4 i) 7 0 0 0 0 0 0 0 0 32 f.1 f.2.1 f.2.2.1 f.2.2.2.1 f.2.2.2.2.1 f.2.2.2.2.2.1 f.2.2.2.2.2.2.1 f.2.2.2.2.2.2.2.1 f.2.2.2.2.2.2.2.2.1 f.2.2.2.2.2.2.2.2.2.1 f.2.2.2.2.2.2.2.2.2.2).bind fun a=>
 if (cop .eql (List.length e.2.2.2.2.2.1:Int) 8) then
 if (cop .eql (List.length a.1:Int) 1) then
 Zu a.1 0 hs0 fun (j:Qt3)=>
 if (cop .eql j.2.2.2.2.2.2.2.2.2.2.1 9) then
 (g8).bind fun k=>
 some (k)
 else
 some (false)
 else
 some (false)
 else
 if (cop .neq (List.length a.1:Int) 1) then
 some (false)
 else
 Zu a.1 0 hs0 fun (j:Qt3)=>
 if (cop .neq j.1 4) then
 some (false)
 else
 Zu a.1 0 hs0 fun (k:Qt3)=>
 if (cop .neq k.2.2.2.1 (iop .add .i64 4 i)) then
 some (false)
 else
 Zu a.1 0 hs0 fun (u:Qt3)=>
 if (cop .neq (List.length (d8 (d16 (d16 u))).2.1:Int) 1) then
 some (false)
 else
 (g21 a.2.1 a.2.2.1 a.2.2.2.1 a.2.2.2.2.1 a.2.2.2.2.2.1 a.2.2.2.2.2.2.1 a.2.2.2.2.2.2.2.1 a.2.2.2.2.2.2.2.2.1 a.2.2.2.2.2.2.2.2.2.1 a.2.2.2.2.2.2.2.2.2.2.1 a.2.2.2.2.2.2.2.2.2.2.2.1 (d4 (d8 a)).1 (d4 (d8 a)).2.1 (d2 (d4 (d8 a))).1 (d2 (d4 (d8 a))).2.1 (d16 a).1 (d16 a).2.1 (d2 (d16 a)).1 (d2 (d16 a)).2.1 (d4 (d16 a)).1 (d4 (d16 a)).2.1 (d2 (d4 (d16 a))).1 (d2 (d4 (d16 a))).2.1 (d8 (d16 a)).1 (d8 (d16 a)).2.1 (d2 (d8 (d16 a))).1 (d2 (d8 (d16 a))).2.1 (d4 (d8 (d16 a))).1 (d4 (d8 (d16 a))).2.1 (d2 (d4 (d8 (d16 a)))).1 (d2 (d4 (d8 (d16 a)))).2.1 (d16 (d16 a)).1 (d16 (d16 a)).2.1 (d2 (d16 (d16 a))).1 (d2 (d16 (d16 a))).2.1 (d4 (d16 (d16 a))).1 (d4 (d16 (d16 a))).2.1 (d2 (d4 (d16 (d16 a))))).bind fun c=>
 if (cop .neq (List.length c.1:Int) (iop .add .i64 (List.length g:Int) 1)) then
 some (false)
 else
 (g12 p 2).bind fun v=>
 Zu ((E0++[[AV.val (.int .i64 3)]])++[[AV.val (.int .i64 4)]]) v [.int .i64] fun (q:Int)=>
 (g18 c.2.1 c.2.2.1 c.2.2.2.1 c.2.2.2.2.1 c.2.2.2.2.2.1 c.2.2.2.2.2.2.1 c.2.2.2.2.2.2.2.1 c.2.2.2.2.2.2.2.2.1 c.2.2.2.2.2.2.2.2.2.1 c.2.2.2.2.2.2.2.2.2.2.1 c.2.2.2.2.2.2.2.2.2.2.2.1 (d4 (d8 c)).1 (d4 (d8 c)).2.1 (d2 (d4 (d8 c))).1 (d2 (d4 (d8 c))).2.1 (d16 c).1 (d16 c).2.1 (d2 (d16 c)).1 (d2 (d16 c)).2.1 (d4 (d16 c)).1 (d4 (d16 c)).2.1 (d2 (d4 (d16 c))).1 (d2 (d4 (d16 c))).2.1 (d8 (d16 c)).1 (d8 (d16 c)).2.1 (d2 (d8 (d16 c))).1 (d2 (d8 (d16 c))).2.1 (d4 (d8 (d16 c))).1 (d4 (d8 (d16 c))).2.1 (d2 (d4 (d8 (d16 c)))).1 (d2 (d4 (d8 (d16 c)))).2.1 (d16 (d16 c)).1 (d16 (d16 c)).2.1 (d2 (d16 (d16 c))).1 (d2 (d16 (d16 c))).2.1 (d4 (d16 (d16 c))).1 (d4 (d16 (d16 c))).2.1 (d2 (d4 (d16 (d16 c)))) 5 0 (iop .add .i64 4 i) 0 0 0 0 e.1 100 0 q false 0 0 0 0 0 0 0 0 0 0 0 0 0 0 0 0 0 0 0 0 E0 0 0 0 0 0 0 false E0 E0 E0 E0 0 0 E0 E0 E0 E0 E0 E0 E0 E0 0 0 E0 E0 E0 E0 E0 E0 E0 E0 false 0 E0 E0 E0 E0 E0 E0 E0 E0).bind fun b=>
 if (cop .eql (List.length b.1:Int) 1) then
 if (cop .eql (List.length b.2.1:Int) 0) then
 Zu b.1 0 hs0 fun (w:Qt3)=>
 if (cop .eql w.1 2) then
 Zu b.1 0 hs0 fun (x:Qt3)=>
 if (cop .eql x.2.2.2.2.2.2.2.2.2.2.1 q) then
 Zu b.1 0 hs0 fun (y:Qt3)=>
 if y.2.2.2.2.2.2.2.2.2.2.2.1 then
 (g21 b.2.2.1 b.2.2.2.1 b.2.2.2.2.1 b.2.2.2.2.2.1 b.2.2.2.2.2.2.1 b.2.2.2.2.2.2.2.1 b.2.2.2.2.2.2.2.2.1 b.2.2.2.2.2.2.2.2.2.1 b.2.2.2.2.2.2.2.2.2.2.1 b.2.2.2.2.2.2.2.2.2.2.2.1 (d4 (d8 b)).1 (d4 (d8 b)).2.1 (d2 (d4 (d8 b))).1 (d2 (d4 (d8 b))).2.1 (d16 b).1 (d16 b).2.1 (d2 (d16 b)).1 (d2 (d16 b)).2.1 (d4 (d16 b)).1 (d4 (d16 b)).2.1 (d2 (d4 (d16 b))).1 (d2 (d4 (d16 b))).2.1 (d8 (d16 b)).1 (d8 (d16 b)).2.1 (d2 (d8 (d16 b))).1 (d2 (d8 (d16 b))).2.1 (d4 (d8 (d16 b))).1 (d4 (d8 (d16 b))).2.1 (d2 (d4 (d8 (d16 b)))).1 (d2 (d4 (d8 (d16 b)))).2.1 (d16 (d16 b)).1 (d16 (d16 b)).2.1 (d2 (d16 (d16 b))).1 (d2 (d16 (d16 b))).2.1 (d4 (d16 (d16 b))).1 (d4 (d16 (d16 b))).2.1 (d2 (d4 (d16 (d16 b)))).1 (d2 (d4 (d16 (d16 b)))).2).bind fun z=>
 (g20 z.1 g).bind fun A=>
 if A then
 (g8).bind fun C=>
 some (C)
 else
 some (false)
 else
 some (false)
 else
 some (false)
 else
 some (false)
 else
 some (false)
 else
 some (false)):=by kernel_rfl
end Go.Proofs.YtlgmnddelljbmaaGreat
