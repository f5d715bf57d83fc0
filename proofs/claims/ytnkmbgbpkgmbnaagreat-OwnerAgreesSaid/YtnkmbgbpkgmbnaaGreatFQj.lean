import Derived.Test.YtnkmbgbpkgmbnaaGreatFQi
open Option renaming some→Xa
open Bool renaming false→Xb,true→Xc
open List renaming length→Xg,take→Xy,drop→Xz
open Int renaming toNat→Xh
open Go.IntKind renaming wrap→Xl
set_option linter.unusedVariables false
set_option linter.unusedSimpArgs false
set_option linter.defProp false
namespace Go.Proofs.YtnkmbgbpkgmbnaaGreat
open Go Go.AM
set_option maxRecDepth 100000
noncomputable def F65:Fn:=⟨16,[4],[],[0],0,[],[],Tryz.f65,[.box hs25,.c (.int .i64)],[.c (.bool)],[]⟩
def Zub:F65.S.Ok Tryz.prog 65:=F65.ok Tryz.func65
noncomputable def g65 (a:LL) (b c:Int) (d e f h j k m:LL) (n:Int):Option (Qt38):=F65.S.g [.l a,.i b,.i c,.l d,.l e,.l f,.l h,.l j,.l k,.l m,.i n]
def ZtG (b:LL) (c a:Int) (d e f g h i j:LL) (k:Int):g65 b c a d e f g h i j k =
 (if P0 .geq k 0 then
 Xa ((P0 .lss k a),b,c,a,d,e,f,g,h,i,j)
 else
 Xa (Xb,b,c,a,d,e,f,g,h,i,j)):=by kernel_rfl
noncomputable def F61:Fn:=⟨25,[4],[],[],0,[],[],Tryz.f61,[.agg [.int .i64,.int .i64],.agg [.int .i64,.int .i64]],[.c (.bool)],[(26,F26.S),(99,F99.S)]⟩
def ZAG:F61.S.Ok Tryz.prog 61:=F61.ok Tryz.func61 ⟨ZsR,⟨Zz5,trivial⟩⟩
noncomputable def g61 (a b c d:Int):Option (Bool):=F61.S.g [.i a,.i b,.i c,.i d]
def Zwq (a c b d:Int):g61 a c b d =
 ((g26 a c).bind fun e=>
 if e then
 (g26 b d).bind fun f=>
 if f then
 if P0 .leq a b then
 (g99 b d).bind fun g=>
 (g99 a c).bind fun h=>
 Xa ((P0 .leq g h))
 else
 Xa (Xb)
 else
 Xa (Xb)
 else
 Xa (Xb)):=by kernel_rfl
noncomputable def F27:Fn:=⟨20,[4],[(2,[(0,.c (.slice 3)),(3,.box [.int .i64,.int .i64]),(5,.c (.int .i64))])],[],0,[],[],Tryz.f27,[.c (.slice 3),.agg [.int .i64,.int .i64]],[.c (.int .i64)],[(53,F53.S),(61,F61.S)]⟩
def ZAC:F27.S.Ok Tryz.prog 27:=F27.ok Tryz.func27 ⟨ZAm,⟨ZAG,trivial⟩⟩
noncomputable def g27 (a:LL) (b c:Int):Option (Int):=F27.S.g [.l a,.i b,.i c]
noncomputable def Zkt (k:Nat) (a:LL) (b c d:Int):Option (Int):=F27.lp [0] 0 r0 k [.l a,.i b,.i c,.i d]
def ZiY (k:Nat) (b:LL) (c d a:Int):Zkt (k+1) b c d a =
 (if P0 .lss a (Xg b:Int) then
 Zn b a [.int .i64,.int .i64,.bool] fun (e:Int×Int×Bool)=>
 (g53 e.1 e.2.1 e.2.2).bind fun f=>
 (g61 f.1 f.2 c d).bind fun g=>
 if g then
 Xa (a)
 else
 Zkt k b c d (P1 .add .i64 a 1)
 else
 Xa ((-1))):=by kernel_rfl
def ZtC (a:LL) (b c:Int):g27 a b c =
 (Zkt ZG a b c 0):=by kernel_rfl
noncomputable def ZsW:Fn:=⟨31,[6],[(2,[(0,.c (.slice 13)),(1,.c (.int .i64)),(2,.c (.int .i64)),(7,.c (.int .i64))])],[],0,[],[],Tryz.f109,[.c (.slice 13),.c (.int .i64),.c (.int .i64)],[.c (.int .i64)],[]⟩
def Zui:ZsW.S.Ok Tryz.prog 109:=ZsW.ok Tryz.func109
noncomputable def Zw3 (a:LL) (b c:Int):Option (Int):=ZsW.S.g [.l a,.i b,.i c]
noncomputable def Zcf (k:Nat) (a:LL) (b c d:Int):Option (Int):=ZsW.lp [0] 0 r0 k [.l a,.i b,.i c,.i d]
def Zg0 (k:Nat) (b:LL) (c d a:Int):Zcf (k+1) b c d a =
 (if P0 .lss a (Xg b:Int) then
 Zn b a hs21 fun (e:Qt30)=>
 if P0 .eql e.1 c then
 Zn b a hs21 fun (f:Qt30)=>
 if P0 .eql f.2.1 d then
 Xa (a)
 else
 Zcf k b c d (P1 .add .i64 a 1)
 else
 Zcf k b c d (P1 .add .i64 a 1)
 else
 Xa ((-1))):=by kernel_rfl
def Zst (a:LL) (b c:Int):Zw3 a b c =
 (Zcf ZG a b c 0):=by kernel_rfl
noncomputable def F69:Fn:=⟨28,[6,7],[],[0],0,[],[],Tryz.f69,[.box hs25,.c (.int .i64),.c (.int .i64)],[.agg hs24,.c (.bool)],[(109,ZsW.S),(30,F30.S)]⟩
def Zul:F69.S.Ok Tryz.prog 69:=F69.ok Tryz.func69 ⟨Zui,⟨ZwE,trivial⟩⟩
noncomputable def g69 (a:LL) (b c:Int) (d e f h j k m:LL) (n o:Int):Option (Qt23):=F69.S.g [.l a,.i b,.i c,.l d,.l e,.l f,.l h,.l j,.l k,.l m,.i n,.i o]
def Zt0 (d:LL) (e f:Int) (g h c i j k l:LL) (m n:Int):g69 d e f g h c i j k l m n =
 ((Zw3 c m n).bind fun o=>
 if P0 .lss o 0 then
 Xa (0,0,0,E0,0,0,0,0,0,0,Xb,Xb,d,e,f,g,h,c,i,j,k,l)
 else
 Zn c o hs21 fun (a:Qt30)=>
 (g30 a.2.2.1 a.2.2.2.1 (d4 a).1 (d4 a).2.1 (d6 a).1 (d6 a).2.1 (d8 a).1 (d8 a).2.1 (df a).1 (df a).2.1 (dg a)).bind fun b=>
 Xa (b.1,b.2.1,b.2.2.1,b.2.2.2.1,(d4 b).1,(d4 b).2.1,(d6 b).1,(d6 b).2.1,(d8 b).1,(d8 b).2.1,b.2.2.2.2.2.2.2.2.2.2,Xc,d,e,f,g,h,c,i,j,k,l)):=by kernel_rfl
noncomputable def F66:Fn:=⟨27,[8],[(2,[(0,.box hs25),(1,.c (.int .i64)),(2,.c (.int .i64)),(3,.c (.int .i64)),(9,.c (.int .i64))])],[0],0,[],[],Tryz.f66,[.box hs25,.c (.int .i64),.c (.int .i64),.c (.int .i64)],[.c (.bool)],[(69,F69.S)]⟩
def Zw7:F66.S.Ok Tryz.prog 66:=F66.ok Tryz.func66 ⟨Zul,trivial⟩
noncomputable def g66 (a:LL) (b c:Int) (d e f h j k m:LL) (n o p:Int):Option (Qt38):=F66.S.g [.l a,.i b,.i c,.l d,.l e,.l f,.l h,.l j,.l k,.l m,.i n,.i o,.i p]
noncomputable def Zoz (k:Nat) (a:LL) (b c:Int) (d e f g h j m:LL) (n o p q:Int):Option (Qt38):=F66.lp [0] 0 r0 k [.l a,.i b,.i c,.l d,.l e,.l f,.l g,.l h,.l j,.l m,.i n,.i o,.i p,.i q]
def Zo6 (k:Nat) (c:LL) (d e:Int) (f g h i j l m:LL) (n o p b:Int):Zoz (k+1) c d e f g h i j l m n o p b =
 (if P0 .lss b p then
 (g69 c d e f g h i j l m n (P1 .add .i64 o b)).bind fun a=>
 if (df a).2.1 then
 Xa (Xc,(dg a).1,(dg a).2.1,(dh a).1,(dh a).2.1,(P2 a).1,(P2 a).2.1,(d2 (P2 a)).1,(d2 (P2 a)).2.1,(d4 (P2 a)).1,(d4 (P2 a)).2)
 else
 Zoz k (dg a).1 (dg a).2.1 (dh a).1 (dh a).2.1 (P2 a).1 (P2 a).2.1 (d2 (P2 a)).1 (d2 (P2 a)).2.1 (d4 (P2 a)).1 (d4 (P2 a)).2 n o p (P1 .add .i64 b 1)
 else
 Xa (Xb,c,d,e,f,g,h,i,j,l,m)):=by kernel_rfl
def Zvh (a:LL) (b c:Int) (d e f g h i j:LL) (k l m:Int):g66 a b c d e f g h i j k l m =
 (Zoz ZG a b c d e f g h i j k l m 0):=by kernel_rfl
noncomputable def Zrm:Fn:=⟨21,[4],[(2,[(0,.c (.slice 13)),(3,.box [.int .i64,.int .i64,.int .i64]),(5,.c (.int .i64))])],[],0,[],[],Tryz.f107,[.c (.slice 13),.agg [.int .i64,.int .i64,.int .i64]],[.c (.int .i64)],[]⟩
def ZqE:Zrm.S.Ok Tryz.prog 107:=Zrm.ok Tryz.func107
noncomputable def Zvg (a:LL) (b c d:Int):Option (Int):=Zrm.S.g [.l a,.i b,.i c,.i d]
noncomputable def ZdX (k:Nat) (a:LL) (b c d e:Int):Option (Int):=Zrm.lp [0] 0 r0 k [.l a,.i b,.i c,.i d,.i e]
def Zgz (k:Nat) (b:LL) (c d e a:Int):ZdX (k+1) b c d e a =
 (if P0 .lss a (Xg b:Int) then
 Zn b a hs21 fun (f:Qt30)=>
 if ((P0 .eql f.2.2.1 c)&&((P0 .eql f.2.2.2.1 d)&&((P0 .eql (d4 f).1 e)&&Xc))) then
 Xa (a)
 else
 ZdX k b c d e (P1 .add .i64 a 1)
 else
 Xa ((-1))):=by kernel_rfl
def ZqN (a:LL) (b c d:Int):Zvg a b c d =
 (ZdX ZG a b c d 0):=by kernel_rfl
noncomputable def F32:Fn:=⟨8,[2],[],[],0,[],[],Tryz.f32,[.agg hs31],[.agg [.int .i64,.int .i64]],[]⟩
def Zyc:F32.S.Ok Tryz.prog 32:=F32.ok Tryz.func32
noncomputable def g32 (a c d e f h:Int) (j:Bool):Option (Int×Int):=F32.S.g [.i a,.i c,.i d,.i e,.i f,.i h,.b j]
def ZtH (c a b d e f:Int) (g:Bool):g32 c a b d e f g =
 (Xa (a,b)):=by kernel_rfl
noncomputable def F67:Fn:=⟨64,[6],[(3,[(0,.c (.slice 13)),(2,.c (.slice 7)),(7,.c (.int .i64)),(8,.c (.int .i64))]),(6,[(0,.c (.slice 13)),(2,.c (.slice 7)),(7,.c (.int .i64)),(8,.c (.int .i64)),(9,.c (.int .i64))])],[],0,[],[],Tryz.f67,[.c (.slice 13),.agg [.int .i64,.int .i64,.int .i64],.c (.slice 7)],[.c (.bool)],[(107,Zrm.S),(32,F32.S),(61,F61.S),(54,F54.S)]⟩
def ZAu:F67.S.Ok Tryz.prog 67:=F67.ok Tryz.func67 ⟨ZqE,⟨Zyc,⟨ZAG,⟨ZAv,trivial⟩⟩⟩⟩
noncomputable def g67 (a:LL) (b c d:Int) (e:LL):Option (Bool):=F67.S.g [.l a,.i b,.i c,.i d,.l e]
noncomputable def Ww (f:List V→Option (Bool)) (k:Nat) (a b:LL) (c d e:Int):Option (Bool):=F67.lp [3,0] 1 (ZlY r0 0 f) k [.l a,.l b,.i c,.i d,.i e]
def Zff (t:List V→Option (Bool)) (k:Nat) (c d:LL) (f e h:Int):Ww t (k+1) c d f e h =
 (if P0 .lss h (Xg c:Int) then
 Zn c h hs21 fun (a:Qt30)=>
 if P0 .geq f 0 then
 if P0 .eql (d6 a).1 1 then
 (g32 (d6 a).1 (d6 a).2.1 (d8 a).1 (d8 a).2.1 (df a).1 (df a).2.1 (dg a)).bind fun g=>
 Zn c f hs21 fun (b:Qt30)=>
 (g32 (d6 b).1 (d6 b).2.1 (d8 b).1 (d8 b).2.1 (df b).1 (df b).2.1 (dg b)).bind fun o=>
 (g61 g.1 g.2 o.1 o.2).bind fun r=>
 (g32 (d6 a).1 (d6 a).2.1 (d8 a).1 (d8 a).2.1 (df a).1 (df a).2.1 (dg a)).bind fun p=>
 Zn d e hs31 fun (j:Qt42)=>
 (g32 j.1 j.2.1 j.2.2.1 j.2.2.2.1 (d4 j).1 (d4 j).2.1 j.2.2.2.2.2.2).bind fun q=>
 (g54 p.1 p.2 q.1 q.2).bind fun s=>
 if s then
 if (!r) then
 Xa (Xc)
 else
 Ww t k c d f e (P1 .add .i64 h 1)
 else
 Ww t k c d f e (P1 .add .i64 h 1)
 else
 (g32 (d6 a).1 (d6 a).2.1 (d8 a).1 (d8 a).2.1 (df a).1 (df a).2.1 (dg a)).bind fun g=>
 Zn d e hs31 fun (b:Qt42)=>
 (g32 b.1 b.2.1 b.2.2.1 b.2.2.2.1 (d4 b).1 (d4 b).2.1 b.2.2.2.2.2.2).bind fun m=>
 (g54 g.1 g.2 m.1 m.2).bind fun n=>
 if n then
 Xa (Xc)
 else
 Ww t k c d f e (P1 .add .i64 h 1)
 else
 (g32 (d6 a).1 (d6 a).2.1 (d8 a).1 (d8 a).2.1 (df a).1 (df a).2.1 (dg a)).bind fun g=>
 Zn d e hs31 fun (b:Qt42)=>
 (g32 b.1 b.2.1 b.2.2.1 b.2.2.2.1 (d4 b).1 (d4 b).2.1 b.2.2.2.2.2.2).bind fun m=>
 (g54 g.1 g.2 m.1 m.2).bind fun n=>
 if n then
 Xa (Xc)
 else
 Ww t k c d f e (P1 .add .i64 h 1)
 else
 t [.l c,.l d,.i f,.i (P1 .add .i64 e 1)]):=by kernel_rfl
noncomputable def Zka (k:Nat) (a b:LL) (c d:Int):Option (Bool):=F67.lp [2] 0 r0 k [.l a,.l b,.i c,.i d]
def Zez (k:Nat) (c a:LL) (d b:Int):Zka (k+1) c a d b =
 (if P0 .lss b (Xg a:Int) then
 Ww (F67.lp [2] 0 r0 k) ZG c a d b 0
 else
 Xa (Xb)):=by kernel_rfl
def Zqx (a:LL) (b c d:Int) (e:LL):g67 a b c d e =
 ((Zvg a b c d).bind fun f=>
 Zka ZG a e f 0):=by kernel_rfl
noncomputable def Zxt:Fn:=⟨30,[4],[],[],0,[],[],Tryz.f161,[.agg [.int .i64,.int .i64,.int .i64],.agg [.int .i64,.int .i64,.int .i64]],[.c (.bool)],[]⟩
def ZzM:Zxt.S.Ok Tryz.prog 161:=Zxt.ok Tryz.func161
noncomputable def ZxP (a b c d e f:Int):Option (Bool):=Zxt.S.g [.i a,.i b,.i c,.i d,.i e,.i f]
def ZsN (a b e c d f:Int):ZxP a b e c d f =
 (if P0 .neq a c then
 Xa ((P0 .lss a c))
 else
 if P0 .neq b d then
 Xa ((P0 .lss b d))
 else
 Xa ((P0 .lss e f))):=by kernel_rfl
noncomputable def Zvs:Fn:=⟨62,[4,5],[(4,[(0,.c (.slice 13)),(3,.box hs21),(6,.c (.int .i64))])],[],0,[],[],Tryz.f108,[.c (.slice 13),.agg hs21],[.c (.slice 13),.c (.bool)],[(107,Zrm.S),(109,ZsW.S),(161,Zxt.S),(22,F22.S),(30,F30.S)]⟩
def Zx2:Zvs.S.Ok Tryz.prog 108:=Zvs.ok Tryz.func108 ⟨ZqE,⟨Zui,⟨ZzM,⟨ZwV,⟨ZwE,trivial⟩⟩⟩⟩⟩
noncomputable def Zts (a:LL) (c d e f h:Int) (j:LL) (k m n o p q:Int) (r:Bool):Option (LL×Bool):=Zvs.S.g [.l a,.i c,.i d,.i e,.i f,.i h,.l j,.i k,.i m,.i n,.i o,.i p,.i q,.b r]
noncomputable def WT (k:Nat) (a:LL) (c d e f g:Int) (h:LL) (j m n o p q:Int) (r:Bool) (s:Int):Option (LL×Bool):=Zvs.lp [0,1,0,1,0] 0 r0 k [.l a,.i c,.i d,.i e,.i f,.i g,.l h,.i j,.i m,.i n,.i o,.i p,.i q,.b r,.i s]
def WS (k:Nat) (d:LL) (e f h i j:Int) (l:LL) (m n o p q r:Int) (s:Bool) (c:Int):WT (k+1) d e f h i j l m n o p q r s c =
 (if P0 .lss c (Xg d:Int) then
 Zn d c hs21 fun (g:Qt30)=>
 (ZxP h i j g.2.2.1 g.2.2.2.1 (d4 g).1).bind fun w=>
 if (!w) then
 WT k d e f h i j l m n o p q r s (P1 .add .i64 c 1)
 else
 Zl ((0:Int)≤c)<|
 Zl ((c:Int)≤(Xg d:Int))<|
 (g22 (Xy (Xh c) d)).bind fun t=>
 (g30 h i j l m n o p q r s).bind fun a=>
 Zl (ZB t (E0++[[I e,I f,I a.1,I a.2.1,I a.2.2.1,AV.slice Xb 3 a.2.2.2.1,I (d4 a).1,I (d4 a).2.1,I (d6 a).1,I (d6 a).2.1,I (d8 a).1,I (d8 a).2.1,B a.2.2.2.2.2.2.2.2.2.2]]) 120)<|
 Zl ((0:Int)≤c)<|
 Zl ((c:Int)≤(Xg d:Int))<|
 (g22 (Xz (Xh c) d)).bind fun u=>
 Zl (ZB (t++(E0++[[I e,I f,I a.1,I a.2.1,I a.2.2.1,AV.slice Xb 3 a.2.2.2.1,I (d4 a).1,I (d4 a).2.1,I (d6 a).1,I (d6 a).2.1,I (d8 a).1,I (d8 a).2.1,B a.2.2.2.2.2.2.2.2.2.2]])) u 120)<|
 Xa (((t++(E0++[[I e,I f,I a.1,I a.2.1,I a.2.2.1,AV.slice Xb 3 a.2.2.2.1,I (d4 a).1,I (d4 a).2.1,I (d6 a).1,I (d6 a).2.1,I (d8 a).1,I (d8 a).2.1,B a.2.2.2.2.2.2.2.2.2.2]]))++u),Xc)
 else
 Zl ((0:Int)≤c)<|
 Zl ((c:Int)≤(Xg d:Int))<|
 (g22 (Xy (Xh c) d)).bind fun g=>
 (g30 h i j l m n o p q r s).bind fun b=>
 Zl (ZB g (E0++[[I e,I f,I b.1,I b.2.1,I b.2.2.1,AV.slice Xb 3 b.2.2.2.1,I (d4 b).1,I (d4 b).2.1,I (d6 b).1,I (d6 b).2.1,I (d8 b).1,I (d8 b).2.1,B b.2.2.2.2.2.2.2.2.2.2]]) 120)<|
 Zl ((0:Int)≤c)<|
 Zl ((c:Int)≤(Xg d:Int))<|
 (g22 (Xz (Xh c) d)).bind fun v=>
 Zl (ZB (g++(E0++[[I e,I f,I b.1,I b.2.1,I b.2.2.1,AV.slice Xb 3 b.2.2.2.1,I (d4 b).1,I (d4 b).2.1,I (d6 b).1,I (d6 b).2.1,I (d8 b).1,I (d8 b).2.1,B b.2.2.2.2.2.2.2.2.2.2]])) v 120)<|
 Xa (((g++(E0++[[I e,I f,I b.1,I b.2.1,I b.2.2.1,AV.slice Xb 3 b.2.2.2.1,I (d4 b).1,I (d4 b).2.1,I (d6 b).1,I (d6 b).2.1,I (d8 b).1,I (d8 b).2.1,B b.2.2.2.2.2.2.2.2.2.2]]))++v),Xc)):=by kernel_rfl
def ZmP (a:LL) (b c d e f:Int) (g:LL) (h i j k l m:Int) (n:Bool):Zts a b c d e f g h i j k l m n =
 ((Zvg a d e f).bind fun o=>
 if P0 .geq o 0 then
 Xa (E0,Xb)
 else
 (Zw3 a b c).bind fun p=>
 if P0 .geq p 0 then
 Xa (E0,Xb)
 else
 WT ZG a b c d e f g h i j k l m n 0):=by kernel_rfl
noncomputable def F68:Fn:=⟨64,[],[(1,[(0,.box hs25),(1,.c (.int .i64)),(2,.c (.int .i64)),(3,.c (.slice 11)),(8,.c (.int .i64))])],[0],0,[],[],Tryz.f68,[.box hs25,.c (.int .i64),.c (.int .i64),.c (.slice 11)],[],[(108,Zvs.S)]⟩
def ZwC:F68.S.Ok Tryz.prog 68:=F68.ok Tryz.func68 ⟨Zx2,trivial⟩
noncomputable def g68 (a:LL) (b c:Int) (d e f h j k m:LL) (n o:Int) (p:LL):Option (Qt41):=F68.S.g [.l a,.i b,.i c,.l d,.l e,.l f,.l h,.l j,.l k,.l m,.i n,.i o,.l p]
noncomputable def Znl (k:Nat) (a:LL) (b c:Int) (d e f g h j m:LL) (n o:Int) (p:LL) (q:Int):Option (Qt41):=F68.lp [0] 0 r0 k [.l a,.i b,.i c,.l d,.l e,.l f,.l g,.l h,.l j,.l m,.i n,.i o,.l p,.i q]
def ZjC (k:Nat) (e:LL) (f g:Int) (h i j l m n c:LL) (p q:Int) (b:LL) (d:Int):Znl (k+1) e f g h i j l m n c p q b d =
 (if P0 .lss d (Xg b:Int) then
 Zn b d hs24 fun (a:Qt36)=>
 (Zts j p (P1 .add .i64 q d) a.1 a.2.1 a.2.2.1 a.2.2.2.1 (d4 a).1 (d4 a).2.1 (d6 a).1 (d6 a).2.1 (d8 a).1 (d8 a).2.1 a.2.2.2.2.2.2.2.2.2.2).bind fun o=>
 Znl k e f g h i o.1 l m n c p q b (P1 .add .i64 d 1)
 else
 if P0 .gtr (Xg b:Int) 0 then
 Zl (ZB E0 c 16)<|
 Zn b 0 hs24 fun (a:Qt36)=>
 Zn b 0 hs24 fun (o:Qt36)=>
 Zl (ZB c (E0++[[I a.1,I o.2.1]]) 16)<|
 Xa (e,f,g,h,i,j,l,m,n,(c++(E0++[[I a.1,I o.2.1]])))
 else
 Xa (e,f,g,h,i,j,l,m,n,c)):=by kernel_rfl
def Zqe (a:LL) (b c:Int) (d e f g h i j:LL) (k l:Int) (m:LL):g68 a b c d e f g h i j k l m =
 (Znl ZG a b c d e f g h i j k l m 0):=by kernel_rfl
noncomputable def F34:Fn:=⟨82,[8],[],[0],0,[],[],Tryz.f34,[.box hs25,.c (.int .i64),.c (.int .i64),.agg hs22],[.c (.int .i64)],[(65,F65.S),(26,F26.S),(27,F27.S),(66,F66.S),(67,F67.S),(68,F68.S)]⟩
def ZBN:F34.S.Ok Tryz.prog 34:=F34.ok Tryz.func34 ⟨Zub,⟨ZsR,⟨ZAC,⟨Zw7,⟨ZAu,⟨ZwC,trivial⟩⟩⟩⟩⟩⟩
noncomputable def g34 (a:LL) (b c:Int) (d e f h j k m:LL) (n o p q r s t u v w x y z A:Int):Option (Qt39):=F34.S.g [.l a,.i b,.i c,.l d,.l e,.l f,.l h,.l j,.l k,.l m,.i n,.i o,.i p,.i q,.i r,.i s,.i t,.i u,.i v,.i w,.i x,.i y,.i z,.i A]
def ZpV (h:LL) (i j:Int) (k l m n o p q:LL) (f r u v g w x y d z e A C D:Int):g34 h i j k l m n o p q f r u v g w x y d z e A C D =
 ((g65 h i j k l m n o p q g).bind fun a=>
 if (!a.1) then
 Xa (1,a.2.1,a.2.2.1,a.2.2.2.1,(d4 a).1,(d4 a).2.1,(d6 a).1,(d6 a).2.1,(d8 a).1,(d8 a).2.1,a.2.2.2.2.2.2.2.2.2.2)
 else
 if P0 .lss d 6 then
 Xa (1,a.2.1,a.2.2.1,a.2.2.2.1,(d4 a).1,(d4 a).2.1,(d6 a).1,(d6 a).2.1,(d8 a).1,(d8 a).2.1,a.2.2.2.2.2.2.2.2.2.2)
 else
 if P0 .gtr d 40 then
 Xa (1,a.2.1,a.2.2.1,a.2.2.2.1,(d4 a).1,(d4 a).2.1,(d6 a).1,(d6 a).2.1,(d8 a).1,(d8 a).2.1,a.2.2.2.2.2.2.2.2.2.2)
 else
 (g26 e d).bind fun E=>
 if (!E) then
 Xa (6,a.2.1,a.2.2.1,a.2.2.2.1,(d4 a).1,(d4 a).2.1,(d6 a).1,(d6 a).2.1,(d8 a).1,(d8 a).2.1,a.2.2.2.2.2.2.2.2.2.2)
 else
 (g27 (d4 a).1 e d).bind fun s=>
 if P0 .lss s 0 then
 Xa (11,a.2.1,a.2.2.1,a.2.2.2.1,(d4 a).1,(d4 a).2.1,(d6 a).1,(d6 a).2.1,(d8 a).1,(d8 a).2.1,a.2.2.2.2.2.2.2.2.2.2)
 else
 (g66 a.2.1 a.2.2.1 a.2.2.2.1 (d4 a).1 (d4 a).2.1 (d6 a).1 (d6 a).2.1 (d8 a).1 (d8 a).2.1 a.2.2.2.2.2.2.2.2.2.2 f g 1).bind fun b=>
 if b.1 then
 Xa (3,b.2.1,b.2.2.1,b.2.2.2.1,(d4 b).1,(d4 b).2.1,(d6 b).1,(d6 b).2.1,(d8 b).1,(d8 b).2.1,b.2.2.2.2.2.2.2.2.2.2)
 else
 Zn (d4 b).1 s [.int .i64,.int .i64,.bool] fun (t:Int×Int×Bool)=>
 (g67 (d6 b).1 0 0 0 (E0++[[I 1,I e,I d,I 7,I 0,I 0,B t.2.2]])).bind fun G=>
 if G then
 Xa (7,b.2.1,b.2.2.1,b.2.2.2.1,(d4 b).1,(d4 b).2.1,(d6 b).1,(d6 b).2.1,(d8 b).1,(d8 b).2.1,b.2.2.2.2.2.2.2.2.2.2)
 else
 (g68 b.2.1 b.2.2.1 b.2.2.2.1 (d4 b).1 (d4 b).2.1 (d6 b).1 (d6 b).2.1 (d8 b).1 (d8 b).2.1 b.2.2.2.2.2.2.2.2.2.2 f g (E0++[[I f,I r,I 0,AV.slice Xb 3 E0,I 1,I e,I d,I 7,I 0,I 0,B t.2.2]])).bind fun c=>
 Xa (0,c.1,c.2.1,c.2.2.1,c.2.2.2.1,(d4 c).1,(d4 c).2.1,(d6 c).1,(d6 c).2.1,(d8 c).1,c.2.2.2.2.2.2.2.2.2)):=by kernel_rfl
noncomputable def F35:Fn:=⟨29,[6],[],[0],0,[],[],Tryz.f35,[.box hs25,.c (.int .i64),.agg hs22],[.agg hs28],[(65,F65.S),(69,F69.S)]⟩
def ZBM:F35.S.Ok Tryz.prog 35:=F35.ok Tryz.func35 ⟨Zub,⟨Zul,trivial⟩⟩
noncomputable def g35 (a:LL) (b c:Int) (d e f h j k m:LL) (n o p q r s t u v w x y z:Int):Option (Qt27):=F35.S.g [.l a,.i b,.i c,.l d,.l e,.l f,.l h,.l j,.l k,.l m,.i n,.i o,.i p,.i q,.i r,.i s,.i t,.i u,.i v,.i w,.i x,.i y,.i z]
def ZtL (d:LL) (e f:Int) (g h i j k l m:LL) (n o c p q r s t u v w x y:Int):g35 d e f g h i j k l m n o c p q r s t u v w x y =
 ((g65 d e f g h i j k l m c).bind fun b=>
 if (!b.1) then
 Xa (1,0,0,0,0,0,0,Xb,0,b.2.1,b.2.2.1,b.2.2.2.1,(d4 b).1,(d4 b).2.1,(d6 b).1,(d6 b).2.1,(d8 b).1,(d8 b).2.1,b.2.2.2.2.2.2.2.2.2.2)
 else
 (g69 b.2.1 b.2.2.1 b.2.2.2.1 (d4 b).1 (d4 b).2.1 (d6 b).1 (d6 b).2.1 (d8 b).1 (d8 b).2.1 b.2.2.2.2.2.2.2.2.2.2 n c).bind fun a=>
 if (!(df a).2.1) then
 Xa (2,0,0,0,0,0,0,Xb,0,(dg a).1,(dg a).2.1,(dh a).1,(dh a).2.1,(P2 a).1,(P2 a).2.1,(d2 (P2 a)).1,(d2 (P2 a)).2.1,(d4 (P2 a)).1,(d4 (P2 a)).2)
 else
 Xa (0,(d4 a).1,(d4 a).2.1,(d6 a).1,(d6 a).2.1,(d8 a).1,(d8 a).2.1,(df a).1,0,(dg a).1,(dg a).2.1,(dh a).1,(dh a).2.1,(P2 a).1,(P2 a).2.1,(d2 (P2 a)).1,(d2 (P2 a)).2.1,(d4 (P2 a)).1,(d4 (P2 a)).2)):=by kernel_rfl
noncomputable def Ztn:Fn:=⟨8,[2],[],[],0,[],[],Tryz.f118,[.c (.int .i64)],[.c (.int .i64)],[]⟩
def Zr2:Ztn.S.Ok Tryz.prog 118:=Ztn.ok Tryz.func118
noncomputable def Zuq (a:Int):Option (Int):=Ztn.S.g [.i a]
def ZsT (a:Int):Zuq a =
 (if P0 .eql a 32 then
 Xa (2)
 else
 if P0 .eql a 39 then
 Xa (3)
 else
 Xa (0)):=by kernel_rfl
noncomputable def Zw0:Fn:=⟨14,[2],[],[],0,[],[],Tryz.f193,[.c (.int .i64)],[.c (.bool)],[]⟩
def Zx3:Zw0.S.Ok Tryz.prog 193:=Zw0.ok Tryz.func193
noncomputable def ZwI (a:Int):Option (Bool):=Zw0.S.g [.i a]
def ZsP (a:Int):ZwI a =
 (if P0 .geq a 0 then
 Zl ((4096:Int)≠0)<|
 if P0 .eql (P1 .rem .i64 a 4096) 0 then
 Xa ((P0 .leq a 1099511623680))
 else
 Xa (Xb)
 else
 Xa (Xb)):=by kernel_rfl
noncomputable def ZqU:Fn:=⟨8,[2],[],[],0,[],[],Tryz.f112,[.c (.int .i64)],[.c (.int .i64)],[]⟩
def Zov:ZqU.S.Ok Tryz.prog 112:=ZqU.ok Tryz.func112
noncomputable def Zsk (a:Int):Option (Int):=ZqU.S.g [.i a]
def ZsE (a:Int):Zsk a =
 (if P0 .eql a 32 then
 Xa (10)
 else
 if P0 .eql a 39 then
 Xa (9)
 else
 Xa (0)):=by kernel_rfl
noncomputable def Zth:Fn:=⟨31,[2],[],[],0,[],[],Tryz.f163,[.agg [.int .i64,.int .i64,.int .i64]],[.c (.bool)],[]⟩
def Zq8:Zth.S.Ok Tryz.prog 163:=Zth.ok Tryz.func163
noncomputable def ZsZ (a b c:Int):Option (Bool):=Zth.S.g [.i a,.i b,.i c]
def ZqV (a b c:Int):ZsZ a b c =
 (if P0 .geq a 0 then
 if P0 .lss a 32 then
 if P0 .geq b 1 then
 if P0 .leq b 1073741824 then
 if P0 .geq c 0 then
 Xa ((P0 .lss c 8))
 else
 Xa (Xb)
 else
 Xa (Xb)
 else
 Xa (Xb)
 else
 Xa (Xb)
 else
 Xa (Xb)):=by kernel_rfl
noncomputable def ZtW:Fn:=⟨87,[2],[(5,[(1,.box [.int .i64,.int .i64,.int .i64,.slice 6]),(3,.c (.int .i64)),(4,.c (.int .i64))])],[],0,[],[],Tryz.f162,[.agg [.int .i64,.int .i64,.int .i64,.slice 6]],[.c (.bool)],[(118,Ztn.S),(193,Zw0.S),(112,ZqU.S),(163,Zth.S)]⟩
def ZzK:ZtW.S.Ok Tryz.prog 162:=ZtW.ok Tryz.func162 ⟨Zr2,⟨Zx3,⟨Zov,⟨Zq8,trivial⟩⟩⟩⟩
noncomputable def Zyo (a b c:Int) (d:LL):Option (Bool):=ZtW.S.g [.i a,.i b,.i c,.l d]
noncomputable def ZgT (k:Nat) (a b c:Int) (d:LL) (e f:Int):Option (Bool):=ZtW.lp [1,0,1,0,1,1,0] 0 r0 k [.i a,.i b,.i c,.l d,.i e,.i f]
def Zmv (k:Nat) (f d e:Int) (b:LL) (g c:Int):ZgT (k+1) f d e b g c =
 (if P0 .lss c (Xg b:Int) then
 Zn b c hs34 fun (a:Qt44)=>
 if P0 .leq a.1 g then
 Xa (Xb)
 else
 (Zsk d).bind fun h=>
 Zl ((0:Int)≤(Xl .u64 h))<|
 if (P0 .geq a.1 (P1 .shl .i64 1 (Xl .u64 h))) then
 Xa (Xb)
 else
 (ZsZ a.2.2.2.1 (d4 a).1 a.2.2.2.2.2).bind fun i=>
 if (!i) then
 Xa (Xb)
 else
 (ZwI a.2.1).bind fun j=>
 if (!j) then
 Xa (Xb)
 else
 if P0 .lss a.2.2.1 0 then
 Xa (Xb)
 else
 if P0 .gtr a.2.2.1 3 then
 Xa (Xb)
 else
 if P0 .gtr e 0 then
 if P0 .neq a.2.2.1 0 then
 Xa (Xb)
 else
 ZgT k f d e b a.1 (P1 .add .i64 c 1)
 else
 ZgT k f d e b a.1 (P1 .add .i64 c 1)
 else
 Xa (Xc)):=by kernel_rfl
def Zq3 (b c a:Int) (d:LL):Zyo b c a d =
 (if P0 .lss a 0 then
 Xa (Xb)
 else
 (Zuq c).bind fun e=>
 if P0 .geq a e then
 Xa (Xb)
 else
 (ZwI b).bind fun f=>
 if (!f) then
 Xa (Xb)
 else
 if P0 .eql (Xg d:Int) 0 then
 Xa (Xb)
 else
 ZgT ZG b c a d (-1) 0):=by kernel_rfl
noncomputable def Zsx:Fn:=⟨34,[2],[(2,[(0,.c (.slice 4)),(3,.c (.int .i64))])],[],0,[],[],Tryz.f110,[.c (.slice 4)],[.c (.bool)],[(162,ZtW.S)]⟩
def Zq0:Zsx.S.Ok Tryz.prog 110:=Zsx.ok Tryz.func110 ⟨ZzK,trivial⟩
noncomputable def Zvm (a:LL):Option (Bool):=Zsx.S.g [.l a]
noncomputable def Zdw (k:Nat) (a:LL) (b:Int):Option (Bool):=Zsx.lp [0] 0 r0 k [.l a,.i b]
def ZkV (k:Nat) (b:LL) (a:Int):Zdw (k+1) b a =
 (if P0 .lss a (Xg b:Int) then
 Zn b a [.int .i64,.int .i64,.int .i64,.slice 6] fun (c:Int×Int×Int×LL)=>
 (Zyo c.1 c.2.1 c.2.2.1 c.2.2.2).bind fun d=>
 if (!d) then
 Xa (Xb)
 else
 if P0 .gtr a 0 then
 Zn b a [.int .i64,.int .i64,.int .i64,.slice 6] fun (e:Int×Int×Int×LL)=>
 Zn b (P1 .sub .i64 a 1) [.int .i64,.int .i64,.int .i64,.slice 6] fun (f:Int×Int×Int×LL)=>
 if P0 .leq e.1 f.1 then
 Xa (Xb)
 else
 Zdw k b (P1 .add .i64 a 1)
 else
 Zdw k b (P1 .add .i64 a 1)
 else
 Xa (Xc)):=by kernel_rfl
def ZqK (a:LL):Zvm a =
 (Zdw ZG a 0):=by kernel_rfl
noncomputable def Zxz:Fn:=⟨12,[2],[],[],0,[],[],Tryz.f160,[.c (.int .i64)],[.c (.int .i64)],[]⟩
def ZyE:Zxz.S.Ok Tryz.prog 160:=Zxz.ok Tryz.func160
noncomputable def ZzR (a:Int):Option (Int):=Zxz.S.g [.i a]
def Zrp (a:Int):ZzR a =
 (if P0 .eql a 3 then
 Xa (12)
 else
 if P0 .eql a 4 then
 Xa (6)
 else
 if P0 .eql a 5 then
 Xa (10)
 else
 if P0 .eql a 6 then
 Xa (16)
 else
 Xa (0)):=by kernel_rfl
noncomputable def ZuP:Fn:=⟨35,[4],[],[],0,[],[],Tryz.f105,[.c (.int .i64),.c (.int .i64)],[.c (.bool)],[(160,Zxz.S)]⟩
def Zuw:ZuP.S.Ok Tryz.prog 105:=ZuP.ok Tryz.func105 ⟨ZyE,trivial⟩
noncomputable def ZwP (a b:Int):Option (Bool):=ZuP.S.g [.i a,.i b]
def ZqS (a b:Int):ZwP a b =
 (if P0 .eql a 1 then
 if P0 .geq b 6 then
 Xa ((P0 .leq b 40))
 else
 Xa (Xb)
 else
 if P0 .eql a 2 then
 if P0 .geq b 12 then
 Xa ((P0 .leq b 40))
 else
 Xa (Xb)
 else
 if P0 .geq a 3 then
 if P0 .leq a 6 then
 (ZzR a).bind fun c=>
 Xa ((P0 .eql b c))
 else
 Xa (Xb)
 else
 Xa (Xb)):=by kernel_rfl
noncomputable def ZuB:Fn:=⟨23,[4],[],[],0,[],[],Tryz.f106,[.c (.int .i64),.c (.int .i64)],[.c (.bool)],[]⟩
def Zvk:ZuB.S.Ok Tryz.prog 106:=ZuB.ok Tryz.func106
noncomputable def Zw9 (a b:Int):Option (Bool):=ZuB.S.g [.i a,.i b]
def Zr6 (b a:Int):Zw9 b a =
 (if P0 .geq a 0 then
 if P0 .eql b 32 then
 if P0 .leq a 1 then
 Xa (Xc)
 else
 if P0 .eql b 39 then
 Xa ((P0 .leq a 2))
 else
 Xa (Xb)
 else
 if P0 .eql b 39 then
 Xa ((P0 .leq a 2))
 else
 Xa (Xb)
 else
 Xa (Xb)):=by kernel_rfl
noncomputable def ZpY:Fn:=⟨64,[2],[],[],0,[],[],Tryz.f104,[.agg hs31],[.c (.bool)],[(105,ZuP.S),(32,F32.S),(26,F26.S),(106,ZuB.S)]⟩
def Zl8:ZpY.S.Ok Tryz.prog 104:=ZpY.ok Tryz.func104 ⟨Zuw,⟨Zyc,⟨ZsR,⟨Zvk,trivial⟩⟩⟩⟩
noncomputable def ZqO (a c d e f h:Int) (j:Bool):Option (Bool):=ZpY.S.g [.i a,.i c,.i d,.i e,.i f,.i h,.b j]
def Zrn (a g f e c d:Int) (b:Bool):ZqO a g f e c d b =
 ((ZwP a f).bind fun i=>
 if (!i) then
 Xa (Xb)
 else
 (g32 a g f e c d b).bind fun h=>
 (g26 h.1 h.2).bind fun j=>
 if (!j) then
 Xa (Xb)
 else
 if P0 .lss e 0 then
 Xa (Xb)
 else
 if P0 .gtr e 7 then
 Xa (Xb)
 else
 if P0 .eql a 3 then
 (Zw9 c d).bind fun k=>
 if (!k) then
 Xa (Xb)
 else
 if P0 .neq a 3 then
 if P0 .neq c 0 then
 Xa (Xb)
 else
 if P0 .neq d 0 then
 Xa (Xb)
 else
 if (!b) then
 Xa (Xc)
 else
 if P0 .eql a 1 then
 Xa (Xc)
 else
 Xa ((P0 .eql a 2))
 else
 if (!b) then
 Xa (Xc)
 else
 if P0 .eql a 1 then
 Xa (Xc)
 else
 Xa ((P0 .eql a 2))
 else
 if P0 .neq a 3 then
 if P0 .neq c 0 then
 Xa (Xb)
 else
 if P0 .neq d 0 then
 Xa (Xb)
 else
 if (!b) then
 Xa (Xc)
 else
 if P0 .eql a 1 then
 Xa (Xc)
 else
 Xa ((P0 .eql a 2))
 else
 if (!b) then
 Xa (Xc)
 else
 if P0 .eql a 1 then
 Xa (Xc)
 else
 Xa ((P0 .eql a 2))):=by kernel_rfl
noncomputable def Zp6:Fn:=⟨20,[4],[(2,[(0,.c (.slice 4)),(1,.c (.int .i64)),(5,.c (.int .i64))])],[],0,[],[],Tryz.f113,[.c (.slice 4),.c (.int .i64)],[.c (.int .i64)],[]⟩
def Zoo:Zp6.S.Ok Tryz.prog 113:=Zp6.ok Tryz.func113
noncomputable def Zrs (a:LL) (b:Int):Option (Int):=Zp6.S.g [.l a,.i b]
noncomputable def Zjj (k:Nat) (a:LL) (b c:Int):Option (Int):=Zp6.lp [0] 0 r0 k [.l a,.i b,.i c]
def Zmt (k:Nat) (b:LL) (c a:Int):Zjj (k+1) b c a =
 (if P0 .lss a (Xg b:Int) then
 Zn b a [.int .i64,.int .i64,.int .i64,.slice 6] fun (d:Int×Int×Int×LL)=>
 if P0 .eql d.1 c then
 Xa (a)
 else
 Zjj k b c (P1 .add .i64 a 1)
 else
 Xa ((-1))):=by kernel_rfl
def Zr7 (a:LL) (b:Int):Zrs a b =
 (Zjj ZG a b 0):=by kernel_rfl
noncomputable def Zvw:Fn:=⟨40,[4],[],[],0,[],[],Tryz.f111,[.c (.slice 4),.agg hs31],[.c (.bool)],[(104,ZpY.S),(113,Zp6.S)]⟩
def ZuK:Zvw.S.Ok Tryz.prog 111:=Zvw.ok Tryz.func111 ⟨Zl8,⟨Zoo,trivial⟩⟩
noncomputable def Zxo (a:LL) (c d e f h j:Int) (k:Bool):Option (Bool):=Zvw.S.g [.l a,.i c,.i d,.i e,.i f,.i h,.i j,.b k]
def Zr4 (a:LL) (b c g h d e:Int) (i:Bool):Zxo a b c g h d e i =
 ((ZqO b c g h d e i).bind fun j=>
 if (!j) then
 Xa (Xb)
 else
 if P0 .neq b 3 then
 Xa (Xb)
 else
 (Zrs a c).bind fun f=>
 if P0 .lss f 0 then
 Xa (Xc)
 else
 Zn a f [.int .i64,.int .i64,.int .i64,.slice 6] fun (k:Int×Int×Int×LL)=>
 if P0 .eql k.2.1 d then
 Zn a f [.int .i64,.int .i64,.int .i64,.slice 6] fun (l:Int×Int×Int×LL)=>
 Xa ((P0 .eql l.2.2.1 e))
 else
 Xa (Xb)):=by kernel_rfl
noncomputable def Zr1:Fn:=⟨22,[4],[(2,[(1,.c (.int .i64)),(2,.box [.int .i64,.int .i64,.int .i64,.slice 6]),(5,.c (.int .i64))])],[],0,[],[],Tryz.f114,[.agg [.int .i64,.int .i64,.int .i64,.slice 6],.c (.int .i64)],[.c (.int .i64)],[]⟩
def ZsG:Zr1.S.Ok Tryz.prog 114:=Zr1.ok Tryz.func114
noncomputable def Zq7 (a b c:Int) (d:LL) (e:Int):Option (Int):=Zr1.S.g [.i a,.i b,.i c,.l d,.i e]
noncomputable def ZiO (k:Nat) (a b c d:Int) (e:LL) (f:Int):Option (Int):=Zr1.lp [0] 0 r0 k [.i a,.i b,.i c,.i d,.l e,.i f]
def ZkP (k:Nat) (c d e f:Int) (b:LL) (a:Int):ZiO (k+1) c d e f b a =
 (if P0 .lss a (Xg b:Int) then
 Zn b a hs34 fun (g:Qt44)=>
 if P0 .eql g.1 c then
 Xa (a)
 else
 ZiO k c d e f b (P1 .add .i64 a 1)
 else
 Xa ((-1))):=by kernel_rfl
def Zss (a b c:Int) (d:LL) (e:Int):Zq7 a b c d e =
 (ZiO ZG e a b c d 0):=by kernel_rfl
noncomputable def Ztd:Fn:=⟨25,[2],[(3,[(0,.c (.slice 4)),(3,.c (.own Xc 191)),(4,.c (.int .i64))])],[],0,[2,3,18,23],[(7,[(5,4)])],Tryz.f115,[.c (.slice 4)],[.c (.own Xc 191)],[]⟩
def Zwu:Ztd.S.Ok Tryz.prog 115:=Ztd.ok Tryz.func115
noncomputable def Zto (a:LL):Option (LL):=Ztd.S.g [.l a]
noncomputable def Zjs (k:Nat) (a b:LL) (c:Int):Option (LL):=Ztd.lp [0] 0 r0 k [.l a,.l b,.i c]
def Zmr (k:Nat) (b c:LL) (d:Int):Zjs (k+1) b c d =
 (if P0 .lss d (Xg b:Int) then
 Zn b d [.int .i64,.int .i64,.int .i64,.slice 6] fun (a:Int×Int×Int×LL)=>
 Zl (ZB E0 a.2.2.2 48)<|
 Zl (ZB c (E0++[[I a.1,I a.2.1,I a.2.2.1,AV.slice Xb 6 a.2.2.2]]) 48)<|
 Zjs k b (c++(E0++[[I a.1,I a.2.1,I a.2.2.1,AV.slice Xb 6 a.2.2.2]])) (P1 .add .i64 d 1)
 else
 Xa (c)):=by kernel_rfl
def ZrT (a:LL):Zto a =
 (Zjs ZG a E0 0):=by kernel_rfl
noncomputable def F70:Fn:=⟨106,[6,7,8],[],[],0,[],[(14,[(12,0)])],Tryz.f70,[.c (.slice 4),.agg hs31,.c (.int .i64)],[.c (.slice 4),.agg [.int .i64,.int .i64,.int .i64],.c (.int .i64)],[(110,Zsx.S),(111,Zvw.S),(112,ZqU.S),(113,Zp6.S),(114,Zr1.S),(115,Ztd.S)]⟩
def ZBK:F70.S.Ok Tryz.prog 70:=F70.ok Tryz.func70 ⟨Zq0,⟨ZuK,⟨Zov,⟨Zoo,⟨ZsG,⟨Zwu,trivial⟩⟩⟩⟩⟩⟩
noncomputable def g70 (a:LL) (c d e f h j:Int) (k:Bool) (m:Int):Option (LL×Int×Int×Int×Int):=F70.S.g [.l a,.i c,.i d,.i e,.i f,.i h,.i j,.b k,.i m]
def ZvL (f:LL) (m k n o l p:Int) (q:Bool) (h:Int):g70 f m k n o l p q h =
 ((Zvm f).bind fun s=>
 if (!s) then
 Xa (E0,0,0,0,1)
 else
 (Zxo f m k n o l p q).bind fun t=>
 if (!t) then
 Xa (E0,0,0,0,5)
 else
 if P0 .lss h 0 then
 Xa (E0,0,0,0,6)
 else
 (Zsk l).bind fun r=>
 Zl ((0:Int)≤(Xl .u64 r))<|
 if (P0 .geq h (P1 .shl .i64 1 (Xl .u64 r))) then
 Xa (E0,0,0,0,6)
 else
 (Zrs f k).bind fun a=>
 if P0 .lss a 0 then
 Xa (E0,0,0,0,13)
 else
 Zn f a [.int .i64,.int .i64,.int .i64,.slice 6] fun (i:Int×Int×Int×LL)=>
 (Zq7 i.1 i.2.1 i.2.2.1 i.2.2.2 h).bind fun u=>
 if P0 .lss u 0 then
 Xa (E0,0,0,0,13)
 else
 Zn f a [.int .i64,.int .i64,.int .i64,.slice 6] fun (j:Int×Int×Int×LL)=>
 (Zq7 j.1 j.2.1 j.2.2.1 j.2.2.2 h).bind fun b=>
 Zn f a [.int .i64,.int .i64,.int .i64,.slice 6] fun (v:Int×Int×Int×LL)=>
 Zn v.2.2.2 b hs34 fun (g:Qt44)=>
 (Zto f).bind fun d=>
 Zn f a [.int .i64,.int .i64,.int .i64,.slice 6] fun (c:Int×Int×Int×LL)=>
 Zl ((0:Int)≤b)<|
 Zl ((b:Int)≤(Xg c.2.2.2:Int))<|
 Zl (ZB E0 (Xy (Xh b) c.2.2.2) 48)<|
 Zn f a [.int .i64,.int .i64,.int .i64,.slice 6] fun (e:Int×Int×Int×LL)=>
 Zl ((0:Int)≤(P1 .add .i64 b 1))<|
 Zl (((P1 .add .i64 b 1):Int)≤(Xg e.2.2.2:Int))<|
 Zl (ZB (Xy (Xh b) c.2.2.2) (Xz (Xh (P1 .add .i64 b 1)) e.2.2.2) 48)<|
 Zl ((0:Int)≤a)<|
 Zl ((a:Int) < (Xg d:Int))<|
 Zl ((0:Int)≤a)<|
 Zl ((a:Int) < (Xg d:Int))<|
 Zn (Zw d (Xh a) 3 [AV.slice Xb 6 ((Xy (Xh b) c.2.2.2)++(Xz (Xh (P1 .add .i64 b 1)) e.2.2.2))]) a [.int .i64,.int .i64,.int .i64,.slice 6] fun (w:Int×Int×Int×LL)=>
 if P0 .eql (Xg w.2.2.2:Int) 0 then
 Zl ((0:Int)≤a)<|
 Zl ((a:Int)≤(Xg (Zw d (Xh a) 3 [AV.slice Xb 6 ((Xy (Xh b) c.2.2.2)++(Xz (Xh (P1 .add .i64 b 1)) e.2.2.2))]):Int))<|
 Zl (ZB E0 (Xy (Xh a) (Zw d (Xh a) 3 [AV.slice Xb 6 ((Xy (Xh b) c.2.2.2)++(Xz (Xh (P1 .add .i64 b 1)) e.2.2.2))])) 48)<|
 Zl ((0:Int)≤(P1 .add .i64 a 1))<|
 Zl (((P1 .add .i64 a 1):Int)≤(Xg (Zw d (Xh a) 3 [AV.slice Xb 6 ((Xy (Xh b) c.2.2.2)++(Xz (Xh (P1 .add .i64 b 1)) e.2.2.2))]):Int))<|
 Zl (ZB (Xy (Xh a) (Zw d (Xh a) 3 [AV.slice Xb 6 ((Xy (Xh b) c.2.2.2)++(Xz (Xh (P1 .add .i64 b 1)) e.2.2.2))])) (Xz (Xh (P1 .add .i64 a 1)) (Zw d (Xh a) 3 [AV.slice Xb 6 ((Xy (Xh b) c.2.2.2)++(Xz (Xh (P1 .add .i64 b 1)) e.2.2.2))])) 48)<|
 Xa (((Xy (Xh a) (Zw d (Xh a) 3 [AV.slice Xb 6 ((Xy (Xh b) c.2.2.2)++(Xz (Xh (P1 .add .i64 b 1)) e.2.2.2))]))++(Xz (Xh (P1 .add .i64 a 1)) (Zw d (Xh a) 3 [AV.slice Xb 6 ((Xy (Xh b) c.2.2.2)++(Xz (Xh (P1 .add .i64 b 1)) e.2.2.2))]))),g.2.2.2.1,(d4 g).1,g.2.2.2.2.2,0)
 else
 Xa ((Zw d (Xh a) 3 [AV.slice Xb 6 ((Xy (Xh b) c.2.2.2)++(Xz (Xh (P1 .add .i64 b 1)) e.2.2.2))]),g.2.2.2.1,(d4 g).1,g.2.2.2.2.2,0)):=by kernel_rfl
noncomputable def Zqs:Fn:=⟨18,[4],[(2,[(0,.c (.slice 3)),(3,.box [.int .i64,.int .i64,.int .i64]),(5,.c (.int .i64))])],[],0,[],[],Tryz.f123,[.c (.slice 3),.agg [.int .i64,.int .i64,.int .i64]],[.c (.bool)],[]⟩
def Zo7:Zqs.S.Ok Tryz.prog 123:=Zqs.ok Tryz.func123
noncomputable def ZpF (a:LL) (b c d:Int):Option (Bool):=Zqs.S.g [.l a,.i b,.i c,.i d]
noncomputable def ZfJ (k:Nat) (a:LL) (b c d e:Int):Option (Bool):=Zqs.lp [0] 0 r0 k [.l a,.i b,.i c,.i d,.i e]
def ZbN (k:Nat) (a:LL) (c d e b:Int):ZfJ (k+1) a c d e b =
 (if P0 .lss b (Xg a:Int) then
 Zn a b [.int .i64,.int .i64,.int .i64] fun (f:Int×Int×Int)=>
 if ((P0 .eql f.1 c)&&((P0 .eql f.2.1 d)&&((P0 .eql f.2.2 e)&&Xc))) then
 Xa (Xc)
 else
 ZfJ k a c d e (P1 .add .i64 b 1)
 else
 Xa (Xb)):=by kernel_rfl
def ZlE (a:LL) (b c d:Int):ZpF a b c d =
 (ZfJ ZG a b c d 0):=by kernel_rfl
noncomputable def Ztg:Fn:=⟨53,[2],[(4,[(1,.box hs24),(3,.c (.int .i64))])],[],0,[],[],Tryz.f116,[.agg hs24],[.c (.bool)],[(163,Zth.S),(104,ZpY.S),(123,Zqs.S)]⟩
def Zwb:Ztg.S.Ok Tryz.prog 116:=Ztg.ok Tryz.func116 ⟨Zq8,⟨Zl8,⟨Zo7,trivial⟩⟩⟩
noncomputable def ZwH (a c d:Int) (e:LL) (f h j k m n:Int) (o:Bool):Option (Bool):=Ztg.S.g [.i a,.i c,.i d,.l e,.i f,.i h,.i j,.i k,.i m,.i n,.b o]
noncomputable def Zii (k:Nat) (a c d:Int) (e:LL) (f g h j m n:Int) (o:Bool) (p:Int):Option (Bool):=Ztg.lp [0,1,0,1,1,0,1,0] 0 r0 k [.i a,.i c,.i d,.l e,.i f,.i g,.i h,.i j,.i m,.i n,.b o,.i p]
def Zgs (k:Nat) (e f g:Int) (b:LL) (h i j l m n:Int) (o:Bool) (a:Int):Zii (k+1) e f g b h i j l m n o a =
 (if P0 .lss a (Xg b:Int) then
 Zn b a [.int .i64,.int .i64,.int .i64] fun (c:Int×Int×Int)=>
 (ZsZ c.1 c.2.1 c.2.2).bind fun p=>
 if (!p) then
 Xa (Xb)
 else
 Zl ((0:Int)≤a)<|
 Zl ((a:Int)≤(Xg b:Int))<|
 Zn b a [.int .i64,.int .i64,.int .i64] fun (d:Int×Int×Int)=>
 (ZpF (Xy (Xh a) b) d.1 d.2.1 d.2.2).bind fun q=>
 if q then
 Xa (Xb)
 else
 Zii k e f g b h i j l m n o (P1 .add .i64 a 1)
 else
 Xa (Xc)):=by kernel_rfl
def ZqF (a b c:Int) (d:LL) (e f g h i j:Int) (k:Bool):ZwH a b c d e f g h i j k =
 ((ZsZ a b c).bind fun l=>
 if (!l) then
 Xa (Xb)
 else
 (ZqO e f g h i j k).bind fun m=>
 if (!m) then
 Xa (Xb)
 else
 if P0 .gtr (Xg d:Int) 8 then
 Xa (Xb)
 else
 (ZpF d a b c).bind fun n=>
 if n then
 Xa (Xb)
 else
 Zii ZG a b c d e f g h i j k 0):=by kernel_rfl
noncomputable def Zxb:Fn:=⟨34,[4],[],[],0,[],[],Tryz.f117,[.agg hs31,.agg hs31],[.c (.bool)],[]⟩
def ZzV:Zxb.S.Ok Tryz.prog 117:=Zxb.ok Tryz.func117
noncomputable def Zzb (a c d e f h:Int) (j:Bool) (k l m n o p:Int) (q:Bool):Option (Bool):=Zxb.S.g [.i a,.i c,.i d,.i e,.i f,.i h,.b j,.i k,.i l,.i m,.i n,.i o,.i p,.b q]
def Zsv (g h i j c a:Int) (k:Bool) (b l d m e f:Int) (n:Bool):Zzb g h i j c a k b l d m e f n =
 (if P0 .eql a 0 then
 if P0 .eql b 2 then
 Xa ((P0 .eql d 12))
 else
 Xa (Xb)
 else
 if P0 .eql b 3 then
 if P0 .eql e c then
 Xa ((P0 .eql f (P1 .sub .i64 a 1)))
 else
 Xa (Xb)
 else
 Xa (Xb)):=by kernel_rfl
noncomputable def F71:Fn:=⟨166,[10,11],[(14,[(6,.box hs31),(12,.box hs34),(13,.c (.slice 4)),(15,.c (.int .i64))]),(23,[(2,.c (.int .i64)),(12,.box hs34),(13,.c (.own Xc 191)),(14,.c (.int .i64)),(18,.c (.slice 6)),(19,.c (.int .i64))])],[],0,[],[(13,[(13,0)]),(28,[(13,0)])],Tryz.f71,[.c (.slice 4),.agg hs31,.c (.int .i64),.agg hs24,.c (.int .i64)],[.c (.slice 4),.c (.int .i64)],[(110,Zsx.S),(116,Ztg.S),(111,Zvw.S),(117,Zxb.S),(112,ZqU.S),(115,Ztd.S),(113,Zp6.S),(114,Zr1.S)]⟩
def ZBO:F71.S.Ok Tryz.prog 71:=F71.ok Tryz.func71 ⟨Zq0,⟨Zwb,⟨ZuK,⟨ZzV,⟨Zov,⟨Zwu,⟨Zoo,⟨ZsG,trivial⟩⟩⟩⟩⟩⟩⟩⟩
noncomputable def g71 (a:LL) (c d e f h j:Int) (k:Bool) (m n o p:Int) (q:LL) (r s t u v w:Int) (x:Bool) (y:Int):Option (LL×Int):=F71.S.g [.l a,.i c,.i d,.i e,.i f,.i h,.i j,.b k,.i m,.i n,.i o,.i p,.l q,.i r,.i s,.i t,.i u,.i v,.i w,.b x,.i y]
noncomputable def Zkf (k:Nat) (a c d e f g:Int) (h:Bool) (j m n o p q:Int) (r:LL) (s:Int):Option (LL×Int):=F71.lp [0,1,0,1,1,1,0,1,0,1,1,2,1,0,3,0] 0 r0 k [.i a,.i c,.i d,.i e,.i f,.i g,.b h,.i j,.i m,.i n,.i o,.i p,.i q,.l r,.i s]
def Zox (k:Nat) (m c n o d e:Int) (p:Bool) (f g h i j l:Int) (b:LL) (a:Int):Zkf (k+1) m c n o d e p f g h i j l b a =
 (if P0 .lss a (Xg b:Int) then
 Zn b a [.int .i64,.int .i64,.int .i64,.slice 6] fun (q:Int×Int×Int×LL)=>
 if P0 .lss q.1 c then
 Zkf k m c n o d e p f g h i j l b (P1 .add .i64 a 1)
 else
 Zl ((0:Int)≤a)<|
 Zl ((a:Int)≤(Xg b:Int))<|
 Zl (ZB E0 (Xy (Xh a) b) 48)<|
 Zl (ZB (Xy (Xh a) b) (E0++[[I c,I d,I e,AV.slice Xb 6 (E0++[[I f,I g,I h,I i,I j,I l]])]]) 48)<|
 Zl ((0:Int)≤a)<|
 Zl ((a:Int)≤(Xg b:Int))<|
 Zl (ZB ((Xy (Xh a) b)++(E0++[[I c,I d,I e,AV.slice Xb 6 (E0++[[I f,I g,I h,I i,I j,I l]])]])) (Xz (Xh a) b) 48)<|
 Xa ((((Xy (Xh a) b)++(E0++[[I c,I d,I e,AV.slice Xb 6 (E0++[[I f,I g,I h,I i,I j,I l]])]]))++(Xz (Xh a) b)),0)
 else
 Zl ((0:Int)≤a)<|
 Zl ((a:Int)≤(Xg b:Int))<|
 Zl (ZB E0 (Xy (Xh a) b) 48)<|
 Zl (ZB (Xy (Xh a) b) (E0++[[I c,I d,I e,AV.slice Xb 6 (E0++[[I f,I g,I h,I i,I j,I l]])]]) 48)<|
 Zl ((0:Int)≤a)<|
 Zl ((a:Int)≤(Xg b:Int))<|
 Zl (ZB ((Xy (Xh a) b)++(E0++[[I c,I d,I e,AV.slice Xb 6 (E0++[[I f,I g,I h,I i,I j,I l]])]])) (Xz (Xh a) b) 48)<|
 Xa ((((Xy (Xh a) b)++(E0++[[I c,I d,I e,AV.slice Xb 6 (E0++[[I f,I g,I h,I i,I j,I l]])]]))++(Xz (Xh a) b)),0)):=by kernel_rfl
noncomputable def ZkA (k:Nat) (a b c d e f g:Int) (h:LL) (j:Int) (m:LL) (n:Int):Option (LL×Int):=F71.lp [0,1,0,1,1,1,0,1,0,1,1,2,1,0,2,1,4,1,4] 0 r0 k [.i a,.i b,.i c,.i d,.i e,.i f,.i g,.l h,.i j,.l m,.i n]
def Zn5 (k:Nat) (l d e f g h i:Int) (j:LL) (c:Int) (b:LL) (a:Int):ZkA (k+1) l d e f g h i j c b a =
 (if P0 .lss a (Xg b:Int) then
 Zn b a hs34 fun (m:Qt44)=>
 if P0 .lss m.1 l then
 ZkA k l d e f g h i j c b (P1 .add .i64 a 1)
 else
 Zl ((0:Int)≤a)<|
 Zl ((a:Int)≤(Xg b:Int))<|
 Zl (ZB E0 (Xy (Xh a) b) 48)<|
 Zl (ZB (Xy (Xh a) b) (E0++[[I d,I e,I f,I g,I h,I i]]) 48)<|
 Zl ((0:Int)≤a)<|
 Zl ((a:Int)≤(Xg b:Int))<|
 Zl (ZB ((Xy (Xh a) b)++(E0++[[I d,I e,I f,I g,I h,I i]])) (Xz (Xh a) b) 48)<|
 Zl ((0:Int)≤c)<|
 Zl ((c:Int) < (Xg j:Int))<|
 Zl ((0:Int)≤c)<|
 Zl ((c:Int) < (Xg j:Int))<|
 Xa ((Zw j (Xh c) 3 [AV.slice Xb 6 (((Xy (Xh a) b)++(E0++[[I d,I e,I f,I g,I h,I i]]))++(Xz (Xh a) b))]),0)
 else
 Zl ((0:Int)≤a)<|
 Zl ((a:Int)≤(Xg b:Int))<|
 Zl (ZB E0 (Xy (Xh a) b) 48)<|
 Zl (ZB (Xy (Xh a) b) (E0++[[I d,I e,I f,I g,I h,I i]]) 48)<|
 Zl ((0:Int)≤a)<|
 Zl ((a:Int)≤(Xg b:Int))<|
 Zl (ZB ((Xy (Xh a) b)++(E0++[[I d,I e,I f,I g,I h,I i]])) (Xz (Xh a) b) 48)<|
 Zl ((0:Int)≤c)<|
 Zl ((c:Int) < (Xg j:Int))<|
 Zl ((0:Int)≤c)<|
 Zl ((c:Int) < (Xg j:Int))<|
 Xa ((Zw j (Xh c) 3 [AV.slice Xb 6 (((Xy (Xh a) b)++(E0++[[I d,I e,I f,I g,I h,I i]]))++(Xz (Xh a) b))]),0)):=by kernel_rfl
def Zv6 (l:LL) (m e n o g h:Int) (p:Bool) (c i j k:Int) (z:LL) (s f t q u v:Int) (w:Bool) (r:Int):g71 l m e n o g h p c i j k z s f t q u v w r =
 ((Zvm l).bind fun C=>
 if (!C) then
 Xa (E0,1)
 else
 (ZwH i j k z s f t q u v w).bind fun D=>
 if (!D) then
 Xa (E0,1)
 else
 if P0 .lss r 0 then
 Xa (E0,1)
 else
 if P0 .gtr r 7 then
 Xa (E0,1)
 else
 (Zxo l m e n o g h p).bind fun E=>
 if (!E) then
 Xa (E0,5)
 else
 (Zzb m e n o g h p s f t q u v w).bind fun G=>
 if (!G) then
 Xa (E0,5)
 else
 if P0 .lss c 0 then
 Xa (E0,6)
 else
 (Zsk g).bind fun A=>
 Zl ((0:Int)≤(Xl .u64 A))<|
 if (P0 .geq c (P1 .shl .i64 1 (Xl .u64 A))) then
 Xa (E0,6)
 else
 if P0 .eql h 0 then
 (Zto l).bind fun b=>
 (Zrs b e).bind fun a=>
 if P0 .lss a 0 then
 Zkf ZG m e n o g h p c f (P1 .and .i64 (P1 .and .i64 q r) 3) i j k b 0
 else
 Zl ((0:Int)≤a)<|
 Zl ((a:Int) < (Xg b:Int))<|
 Zn b a [.int .i64,.int .i64,.int .i64,.slice 6] fun (d:Int×Int×Int×LL)=>
 (Zq7 d.1 d.2.1 d.2.2.1 d.2.2.2 c).bind fun x=>
 if P0 .geq x 0 then
 Xa (E0,12)
 else
 Zl ((0:Int)≤a)<|
 Zl ((a:Int) < (Xg b:Int))<|
 Zn b a [.int .i64,.int .i64,.int .i64,.slice 6] fun (y:Int×Int×Int×LL)=>
 ZkA ZG c c f (P1 .and .i64 (P1 .and .i64 q r) 3) i j k b a y.2.2.2 0
 else
 (Zto l).bind fun b=>
 (Zrs b e).bind fun a=>
 if P0 .lss a 0 then
 Zkf ZG m e n o g h p c f 0 i j k b 0
 else
 Zl ((0:Int)≤a)<|
 Zl ((a:Int) < (Xg b:Int))<|
 Zn b a [.int .i64,.int .i64,.int .i64,.slice 6] fun (d:Int×Int×Int×LL)=>
 (Zq7 d.1 d.2.1 d.2.2.1 d.2.2.2 c).bind fun x=>
 if P0 .geq x 0 then
 Xa (E0,12)
 else
 Zl ((0:Int)≤a)<|
 Zl ((a:Int) < (Xg b:Int))<|
 Zn b a [.int .i64,.int .i64,.int .i64,.slice 6] fun (y:Int×Int×Int×LL)=>
 ZkA ZG c c f 0 i j k b a y.2.2.2 0):=by kernel_rfl
noncomputable def F36:Fn:=⟨121,[6],[],[0],0,[],[],Tryz.f36,[.box hs25,.c (.int .i64),.agg hs22],[.c (.int .i64)],[(65,F65.S),(69,F69.S),(70,F70.S),(71,F71.S)]⟩
def ZCk:F36.S.Ok Tryz.prog 36:=F36.ok Tryz.func36 ⟨Zub,⟨Zul,⟨ZBK,⟨ZBO,trivial⟩⟩⟩⟩
noncomputable def g36 (a:LL) (b c:Int) (d e f h j k m:LL) (n o p q r s t u v w x y z:Int):Option (Qt39):=F36.S.g [.l a,.i b,.i c,.l d,.l e,.l f,.l h,.l j,.l k,.l m,.i n,.i o,.i p,.i q,.i r,.i s,.i t,.i u,.i v,.i w,.i x,.i y,.i z]
def ZtS (p:LL) (q r:Int) (s t u v w x y:LL) (e i j k z g A C D E G h H:Int):g36 p q r s t u v w x y e i j k z g A C D E G h H =
 ((g65 p q r s t u v w x y j).bind fun f=>
 if (!f.1) then
 Xa (1,f.2.1,f.2.2.1,f.2.2.2.1,(d4 f).1,(d4 f).2.1,(d6 f).1,(d6 f).2.1,(d8 f).1,(d8 f).2.1,f.2.2.2.2.2.2.2.2.2.2)
 else
 if P0 .eql i 8 then
 (g65 f.2.1 f.2.2.1 f.2.2.2.1 (d4 f).1 (d4 f).2.1 (d6 f).1 (d6 f).2.1 (d8 f).1 (d8 f).2.1 f.2.2.2.2.2.2.2.2.2.2 k).bind fun a=>
 if (!a.1) then
 Xa (1,a.2.1,a.2.2.1,a.2.2.2.1,(d4 a).1,(d4 a).2.1,(d6 a).1,(d6 a).2.1,(d8 a).1,(d8 a).2.1,a.2.2.2.2.2.2.2.2.2.2)
 else
 if P0 .lss g 0 then
 Xa (1,a.2.1,a.2.2.1,a.2.2.2.1,(d4 a).1,(d4 a).2.1,(d6 a).1,(d6 a).2.1,(d8 a).1,(d8 a).2.1,a.2.2.2.2.2.2.2.2.2.2)
 else
 if P0 .gtr g 7 then
 Xa (1,a.2.1,a.2.2.1,a.2.2.2.1,(d4 a).1,(d4 a).2.1,(d6 a).1,(d6 a).2.1,(d8 a).1,(d8 a).2.1,a.2.2.2.2.2.2.2.2.2.2)
 else
 (g69 a.2.1 a.2.2.1 a.2.2.2.1 (d4 a).1 (d4 a).2.1 (d6 a).1 (d6 a).2.1 (d8 a).1 (d8 a).2.1 a.2.2.2.2.2.2.2.2.2.2 e j).bind fun b=>
 if (!(df b).2.1) then
 Xa (2,(dg b).1,(dg b).2.1,(dh b).1,(dh b).2.1,(P2 b).1,(P2 b).2.1,(d2 (P2 b)).1,(d2 (P2 b)).2.1,(d4 (P2 b)).1,(d4 (P2 b)).2)
 else
 if (!(P0 .eql i 8)) then
 Zl ((0:Int)≤e)<|
 Zl ((e:Int) < (Xg (d2 (P2 b)).1:Int))<|
 Zn (d2 (P2 b)).1 e [.slice 4] fun (c:LL)=>
 (g70 c (d4 b).1 (d4 b).2.1 (d6 b).1 (d6 b).2.1 (d8 b).1 (d8 b).2.1 (df b).1 h).bind fun l=>
 if P0 .eql l.2.2.2.2 0 then
 Zl ((0:Int)≤e)<|
 Zl ((e:Int) < (Xg (d2 (P2 b)).1:Int))<|
 Zl ((0:Int)≤e)<|
 Zl ((e:Int) < (Xg (d2 (P2 b)).1:Int))<|
 Xa (l.2.2.2.2,(dg b).1,(dg b).2.1,(dh b).1,(dh b).2.1,(P2 b).1,(P2 b).2.1,(Zw (d2 (P2 b)).1 (Xh e) 0 [AV.slice Xb 4 l.1]),(d2 (P2 b)).2.1,(d4 (P2 b)).1,(d4 (P2 b)).2)
 else
 Xa (l.2.2.2.2,(dg b).1,(dg b).2.1,(dh b).1,(dh b).2.1,(P2 b).1,(P2 b).2.1,(d2 (P2 b)).1,(d2 (P2 b)).2.1,(d4 (P2 b)).1,(d4 (P2 b)).2)
 else
 (g69 (dg b).1 (dg b).2.1 (dh b).1 (dh b).2.1 (P2 b).1 (P2 b).2.1 (d2 (P2 b)).1 (d2 (P2 b)).2.1 (d4 (P2 b)).1 (d4 (P2 b)).2 e k).bind fun c=>
 if (!(df c).2.1) then
 Xa (2,(dg c).1,(dg c).2.1,(dh c).1,(dh c).2.1,(P2 c).1,(P2 c).2.1,(d2 (P2 c)).1,(d2 (P2 c)).2.1,(d4 (P2 c)).1,(d4 (P2 c)).2)
 else
 Zl ((0:Int)≤e)<|
 Zl ((e:Int) < (Xg (d2 (P2 c)).1:Int))<|
 Zn (d2 (P2 c)).1 e [.slice 4] fun (J:LL)=>
 (g71 J (d4 b).1 (d4 b).2.1 (d6 b).1 (d6 b).2.1 (d8 b).1 (d8 b).2.1 (df b).1 h c.1 c.2.1 c.2.2.1 c.2.2.2.1 (d4 c).1 (d4 c).2.1 (d6 c).1 (d6 c).2.1 (d8 c).1 (d8 c).2.1 (df c).1 g).bind fun m=>
 if P0 .eql m.2 0 then
 Zl ((0:Int)≤e)<|
 Zl ((e:Int) < (Xg (d2 (P2 c)).1:Int))<|
 Zl ((0:Int)≤e)<|
 Zl ((e:Int) < (Xg (d2 (P2 c)).1:Int))<|
 Xa (m.2,(dg c).1,(dg c).2.1,(dh c).1,(dh c).2.1,(P2 c).1,(P2 c).2.1,(Zw (d2 (P2 c)).1 (Xh e) 0 [AV.slice Xb 4 m.1]),(d2 (P2 c)).2.1,(d4 (P2 c)).1,(d4 (P2 c)).2)
 else
 Xa (m.2,(dg c).1,(dg c).2.1,(dh c).1,(dh c).2.1,(P2 c).1,(P2 c).2.1,(d2 (P2 c)).1,(d2 (P2 c)).2.1,(d4 (P2 c)).1,(d4 (P2 c)).2)
 else
 (g69 f.2.1 f.2.2.1 f.2.2.2.1 (d4 f).1 (d4 f).2.1 (d6 f).1 (d6 f).2.1 (d8 f).1 (d8 f).2.1 f.2.2.2.2.2.2.2.2.2.2 e j).bind fun a=>
 if (!(df a).2.1) then
 Xa (2,(dg a).1,(dg a).2.1,(dh a).1,(dh a).2.1,(P2 a).1,(P2 a).2.1,(d2 (P2 a)).1,(d2 (P2 a)).2.1,(d4 (P2 a)).1,(d4 (P2 a)).2)
 else
 if (!(P0 .eql i 8)) then
 Zl ((0:Int)≤e)<|
 Zl ((e:Int) < (Xg (d2 (P2 a)).1:Int))<|
 Zn (d2 (P2 a)).1 e [.slice 4] fun (d:LL)=>
 (g70 d (d4 a).1 (d4 a).2.1 (d6 a).1 (d6 a).2.1 (d8 a).1 (d8 a).2.1 (df a).1 h).bind fun n=>
 if P0 .eql n.2.2.2.2 0 then
 Zl ((0:Int)≤e)<|
 Zl ((e:Int) < (Xg (d2 (P2 a)).1:Int))<|
 Zl ((0:Int)≤e)<|
 Zl ((e:Int) < (Xg (d2 (P2 a)).1:Int))<|
 Xa (n.2.2.2.2,(dg a).1,(dg a).2.1,(dh a).1,(dh a).2.1,(P2 a).1,(P2 a).2.1,(Zw (d2 (P2 a)).1 (Xh e) 0 [AV.slice Xb 4 n.1]),(d2 (P2 a)).2.1,(d4 (P2 a)).1,(d4 (P2 a)).2)
 else
 Xa (n.2.2.2.2,(dg a).1,(dg a).2.1,(dh a).1,(dh a).2.1,(P2 a).1,(P2 a).2.1,(d2 (P2 a)).1,(d2 (P2 a)).2.1,(d4 (P2 a)).1,(d4 (P2 a)).2)
 else
 (g69 (dg a).1 (dg a).2.1 (dh a).1 (dh a).2.1 (P2 a).1 (P2 a).2.1 (d2 (P2 a)).1 (d2 (P2 a)).2.1 (d4 (P2 a)).1 (d4 (P2 a)).2 e k).bind fun d=>
 if (!(df d).2.1) then
 Xa (2,(dg d).1,(dg d).2.1,(dh d).1,(dh d).2.1,(P2 d).1,(P2 d).2.1,(d2 (P2 d)).1,(d2 (P2 d)).2.1,(d4 (P2 d)).1,(d4 (P2 d)).2)
 else
 Zl ((0:Int)≤e)<|
 Zl ((e:Int) < (Xg (d2 (P2 d)).1:Int))<|
 Zn (d2 (P2 d)).1 e [.slice 4] fun (K:LL)=>
 (g71 K (d4 a).1 (d4 a).2.1 (d6 a).1 (d6 a).2.1 (d8 a).1 (d8 a).2.1 (df a).1 h d.1 d.2.1 d.2.2.1 d.2.2.2.1 (d4 d).1 (d4 d).2.1 (d6 d).1 (d6 d).2.1 (d8 d).1 (d8 d).2.1 (df d).1 g).bind fun o=>
 if P0 .eql o.2 0 then
 Zl ((0:Int)≤e)<|
 Zl ((e:Int) < (Xg (d2 (P2 d)).1:Int))<|
 Zl ((0:Int)≤e)<|
 Zl ((e:Int) < (Xg (d2 (P2 d)).1:Int))<|
 Xa (o.2,(dg d).1,(dg d).2.1,(dh d).1,(dh d).2.1,(P2 d).1,(P2 d).2.1,(Zw (d2 (P2 d)).1 (Xh e) 0 [AV.slice Xb 4 o.1]),(d2 (P2 d)).2.1,(d4 (P2 d)).1,(d4 (P2 d)).2)
 else
 Xa (o.2,(dg d).1,(dg d).2.1,(dh d).1,(dh d).2.1,(P2 d).1,(P2 d).2.1,(d2 (P2 d)).1,(d2 (P2 d)).2.1,(d4 (P2 d)).1,(d4 (P2 d)).2)):=by kernel_rfl
noncomputable def Zt8:Fn:=⟨22,[4],[],[],0,[],[],Tryz.f119,[.c (.int .i64),.c (.int .i64)],[.c (.bool)],[]⟩
def ZuR:Zt8.S.Ok Tryz.prog 119:=Zt8.ok Tryz.func119
noncomputable def Zxc (a b:Int):Option (Bool):=Zt8.S.g [.i a,.i b]
def Zrt (a b:Int):Zxc a b =
 (if P0 .eql a 32 then
 if P0 .geq b 0 then
 Zl ((0:Int)≤(Xl .u64 a))<|
 Xa ((P0 .lss b (P1 .shl .i64 1 (Xl .u64 a))))
 else
 Xa (Xb)
 else
 if P0 .eql a 39 then
 if P0 .geq b 0 then
 Zl ((0:Int)≤(Xl .u64 a))<|
 Xa ((P0 .lss b (P1 .shl .i64 1 (Xl .u64 a))))
 else
 Xa (Xb)
 else
 Xa (Xb)):=by kernel_rfl
noncomputable def Zus:Fn:=⟨41,[6],[(5,[(0,.c (.int .i64)),(1,.c (.int .i64)),(7,.c (.int .i64)),(8,.c (.int .i64))])],[],0,[],[],Tryz.f120,[.c (.int .i64),.c (.int .i64),.c (.int .i64)],[.c (.int .i64)],[(119,Zt8.S),(118,Ztn.S),(112,ZqU.S)]⟩
def ZzJ:Zus.S.Ok Tryz.prog 120:=Zus.ok Tryz.func120 ⟨ZuR,⟨Zr2,⟨Zov,trivial⟩⟩⟩
noncomputable def ZyL (a b c:Int):Option (Int):=Zus.S.g [.i a,.i b,.i c]
noncomputable def ZiB (k:Nat) (a b c d:Int):Option (Int):=Zus.lp [0,1,1,0,1,2] 0 r0 k [.i a,.i b,.i c,.i d]
def ZmK (k:Nat) (b c d e:Int):ZiB (k+1) b c d e =
 (if P0 .lss e c then
 (Zsk b).bind fun a=>
 Zl ((0:Int)≤(Xl .u64 a))<|
 ZiB k b c (P1 .shr .i64 d (Xl .u64 a)) (P1 .add .i64 e 1)
 else
 (Zsk b).bind fun a=>
 Zl ((0:Int)≤(Xl .u64 a))<|
 Zl (((P1 .shl .i64 1 (Xl .u64 a)):Int)≠0)<|
 Xa ((P1 .rem .i64 d (P1 .shl .i64 1 (Xl .u64 a))))):=by kernel_rfl
def Zrd (a b c:Int):ZyL a b c =
 ((Zxc a c).bind fun d=>
 if (!d) then
 Xa (0)
 else
 if P0 .lss b 0 then
 Xa (0)
 else
 (Zuq a).bind fun e=>
 if P0 .geq b e then
 Xa (0)
 else
 Zl ((4096:Int)≠0)<|
 ZiB ZG a b (P1 .quo .i64 c 4096) 0):=by kernel_rfl
noncomputable def F72:Fn:=⟨129,[6,7],[(10,[(0,.c (.slice 4)),(2,.c (.int .i64)),(4,.box hs31),(6,.box hs35),(8,.box hs35),(9,.c (.int .i64)),(10,.c (.int .i64))])],[],0,[],[],Tryz.f72,[.c (.slice 4),.agg hs31,.c (.int .i64)],[.agg hs35,.c (.int .i64)],[(110,Zsx.S),(104,ZpY.S),(118,Ztn.S),(119,Zt8.S),(113,Zp6.S),(120,Zus.S),(114,Zr1.S),(62,F62.S)]⟩
def ZCb:F72.S.Ok Tryz.prog 72:=F72.ok Tryz.func72 ⟨Zq0,⟨Zl8,⟨Zr2,⟨ZuR,⟨Zoo,⟨ZzJ,⟨ZsG,⟨Zy9,trivial⟩⟩⟩⟩⟩⟩⟩⟩
noncomputable def g72 (a:LL) (c d e f h j:Int) (k:Bool) (m:Int):Option (Qt43):=F72.S.g [.l a,.i c,.i d,.i e,.i f,.i h,.i j,.b k,.i m]
noncomputable def ZoL (k:Nat) (a:LL) (c d e f g h j:Int) (m:Bool) (n o p q:Int) (r s:LL) (t u v w:Int) (x y:LL) (z A:Int):Option (Qt43):=F72.lp [0,1,0,1,1,0,1,0,1,2] 0 r0 k [.l a,.i c,.i d,.i e,.i f,.i g,.i h,.i j,.b m,.i n,.i o,.i p,.i q,.l r,.l s,.i t,.i u,.i v,.i w,.l x,.l y,.i z,.i A]
def ZiW (k:Nat) (b:LL) (i n o p q f r:Int) (s:Bool) (t u v w:Int) (x y:LL) (j l z A:Int) (m c:LL) (g d:Int):ZoL (k+1) b i n o p q f r s t u v w x y j l z A m c g d =
 (if P0 .geq d 0 then
 (Zrs b g).bind fun e=>
 if P0 .lss e 0 then
 Xa (0,0,0,0,E0,E0,13)
 else
 Zn b e [.int .i64,.int .i64,.int .i64,.slice 6] fun (E:Int×Int×Int×LL)=>
 if P0 .neq E.2.1 f then
 Xa (0,0,0,0,E0,E0,13)
 else
 Zn b e [.int .i64,.int .i64,.int .i64,.slice 6] fun (G:Int×Int×Int×LL)=>
 if P0 .neq G.2.2.1 d then
 Xa (0,0,0,0,E0,E0,13)
 else
 Zn b e [.int .i64,.int .i64,.int .i64,.slice 6] fun (h:Int×Int×Int×LL)=>
 (ZyL f d i).bind fun H=>
 (Zq7 h.1 h.2.1 h.2.2.1 h.2.2.2 H).bind fun C=>
 if P0 .lss C 0 then
 Xa (0,0,0,0,E0,E0,13)
 else
 Zn b e [.int .i64,.int .i64,.int .i64,.slice 6] fun (J:Int×Int×Int×LL)=>
 Zn J.2.2.2 C hs34 fun (a:Qt44)=>
 (g62 m).bind fun D=>
 Zl (ZB D (E0++[[I a.2.2.2.1,I (d4 a).1,I a.2.2.2.2.2]]) 24)<|
 Zl (ZB E0 c 8)<|
 Zl (ZB c (E0++[[I g]]) 8)<|
 ZoL k b i n o p q f r s t u v w x y j l a.2.1 a.2.2.1 (D++(E0++[[I a.2.2.2.1,I (d4 a).1,I a.2.2.2.2.2]])) (c++(E0++[[I g]])) a.2.1 (P1 .sub .i64 d 1)
 else
 Xa (j,l,z,A,m,c,0)):=by kernel_rfl
def ZuI (f:LL) (d a g h b c:Int) (i:Bool) (e:Int):g72 f d a g h b c i e =
 ((Zvm f).bind fun j=>
 if (!j) then
 Xa (0,0,0,0,E0,E0,1)
 else
 (ZqO d a g h b c i).bind fun k=>
 if (!k) then
 Xa (0,0,0,0,E0,E0,5)
 else
 if P0 .neq d 3 then
 Xa (0,0,0,0,E0,E0,5)
 else
 (Zuq b).bind fun l=>
 if P0 .neq c (P1 .sub .i64 l 1) then
 Xa (0,0,0,0,E0,E0,5)
 else
 (Zxc b e).bind fun m=>
 if (!m) then
 Xa (0,0,0,0,E0,E0,6)
 else
 Zl ((4096:Int)≠0)<|
 ZoL ZG f e d a g h b c i 0 0 0 0 E0 E0 a (P1 .quo .i64 e 4096) 0 0 E0 E0 a c):=by kernel_rfl
noncomputable def F37:Fn:=⟨73,[6],[],[0],0,[],[],Tryz.f37,[.box hs25,.c (.int .i64),.agg hs22],[.agg hs28],[(65,F65.S),(69,F69.S),(72,F72.S)]⟩
def ZBY:F37.S.Ok Tryz.prog 37:=F37.ok Tryz.func37 ⟨Zub,⟨Zul,⟨ZCb,trivial⟩⟩⟩
noncomputable def g37 (a:LL) (b c:Int) (d e f h j k m:LL) (n o p q r s t u v w x y z:Int):Option (Qt27):=F37.S.g [.l a,.i b,.i c,.l d,.l e,.l f,.l h,.l j,.l k,.l m,.i n,.i o,.i p,.i q,.i r,.i s,.i t,.i u,.i v,.i w,.i x,.i y,.i z]
def Zve (h:LL) (i j:Int) (k l m n o p q:LL) (c r f s t d u v w x y z g:Int):g37 h i j k l m n o p q c r f s t d u v w x y z g =
 ((g65 h i j k l m n o p q f).bind fun b=>
 if (!b.1) then
 Xa (1,0,0,0,0,0,0,Xb,0,b.2.1,b.2.2.1,b.2.2.2.1,(d4 b).1,(d4 b).2.1,(d6 b).1,(d6 b).2.1,(d8 b).1,(d8 b).2.1,b.2.2.2.2.2.2.2.2.2.2)
 else
 if P0 .lss d 0 then
 Xa (1,0,0,0,0,0,0,Xb,0,b.2.1,b.2.2.1,b.2.2.2.1,(d4 b).1,(d4 b).2.1,(d6 b).1,(d6 b).2.1,(d8 b).1,(d8 b).2.1,b.2.2.2.2.2.2.2.2.2.2)
 else
 if P0 .gtr d 3 then
 Xa (1,0,0,0,0,0,0,Xb,0,b.2.1,b.2.2.1,b.2.2.2.1,(d4 b).1,(d4 b).2.1,(d6 b).1,(d6 b).2.1,(d8 b).1,(d8 b).2.1,b.2.2.2.2.2.2.2.2.2.2)
 else
 (g69 b.2.1 b.2.2.1 b.2.2.2.1 (d4 b).1 (d4 b).2.1 (d6 b).1 (d6 b).2.1 (d8 b).1 (d8 b).2.1 b.2.2.2.2.2.2.2.2.2.2 c f).bind fun a=>
 if (!(df a).2.1) then
 Xa (2,0,0,0,0,0,0,Xb,0,(dg a).1,(dg a).2.1,(dh a).1,(dh a).2.1,(P2 a).1,(P2 a).2.1,(d2 (P2 a)).1,(d2 (P2 a)).2.1,(d4 (P2 a)).1,(d4 (P2 a)).2)
 else
 Zl ((0:Int)≤c)<|
 Zl ((c:Int) < (Xg (d2 (P2 a)).1:Int))<|
 Zn (d2 (P2 a)).1 c [.slice 4] fun (A:LL)=>
 (g72 A (d4 a).1 (d4 a).2.1 (d6 a).1 (d6 a).2.1 (d8 a).1 (d8 a).2.1 (df a).1 g).bind fun e=>
 if P0 .neq e.2.2.2.2.2.2 0 then
 Xa (e.2.2.2.2.2.2,0,0,0,0,0,0,Xb,0,(dg a).1,(dg a).2.1,(dh a).1,(dh a).2.1,(P2 a).1,(P2 a).2.1,(d2 (P2 a)).1,(d2 (P2 a)).2.1,(d4 (P2 a)).1,(d4 (P2 a)).2)
 else
 if P0 .neq (P1 .and .i64 e.2.2.2.1 d) d then
 Xa (8,0,0,0,0,0,0,Xb,0,(dg a).1,(dg a).2.1,(dh a).1,(dh a).2.1,(P2 a).1,(P2 a).2.1,(d2 (P2 a)).1,(d2 (P2 a)).2.1,(d4 (P2 a)).1,(d4 (P2 a)).2)
 else
 Zl ((4096:Int)≠0)<|
 Xa (0,0,0,0,0,0,0,Xb,(P1 .add .i64 e.2.2.1 (P1 .rem .i64 g 4096)),(dg a).1,(dg a).2.1,(dh a).1,(dh a).2.1,(P2 a).1,(P2 a).2.1,(d2 (P2 a)).1,(d2 (P2 a)).2.1,(d4 (P2 a)).1,(d4 (P2 a)).2)):=by kernel_rfl
end Go.Proofs.YtnkmbgbpkgmbnaaGreat
