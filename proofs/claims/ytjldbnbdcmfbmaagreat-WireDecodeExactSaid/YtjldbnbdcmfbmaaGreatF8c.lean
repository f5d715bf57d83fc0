import Derived.Test.YtjldbnbdcmfbmaaGreatF8b
open Option renaming some→Xa
open Bool renaming true→Xb,false→Xc
open List renaming length→Xh,drop→Uw
open Go.IntKind renaming wrap→Xi
open Int renaming toNat→XJ
set_option linter.unusedVariables false
set_option linter.unusedSimpArgs false
set_option linter.defProp false
namespace Go.Proofs.YtjldbnbdcmfbmaaGreat
open Go Go.AM
set_option maxRecDepth 100000
noncomputable def F13:Fn:=⟨16,[4],[],[],0,[],[],Tryz.f13,[.c (.int .i64),.c (.int .i64)],[.c (.int .i64)],[]⟩
def Zrl:F13.S.Ok Tryz.prog 13:=F13.ok Tryz.func13
noncomputable def g13 (a b:Int):Option (Int):=F13.S.g [.i a,.i b]
def ZBr (b a:Int):g13 b a =
 (if P0 .lss a 1 then
 Xa (0)
 else
 Zy ((a:Int)≠0)<|
 if P0 .lss (P1 .rem .i64 b a) 0 then
 Xa ((P1 .add .i64 (P1 .rem .i64 b a) a))
 else
 Xa ((P1 .rem .i64 b a))):=by kernel_rfl
noncomputable def ZDA:Fn:=⟨20,[4],[],[],0,[],[],Tryz.f156,[.c (.int .i64),.c (.int .i64)],[.agg [.int .i64,.int .i64]],[(13,F13.S)]⟩
def ZF2:ZDA.S.Ok Tryz.prog 156:=ZDA.ok Tryz.func156 ⟨Zrl,trivial⟩
noncomputable def ZEX (a b:Int):Option (Int×Int):=ZDA.S.g [.i a,.i b]
def Zut (b c:Int):ZEX b c =
 ((g13 c 11).bind fun a=>
 Zy ((0:Int)≤(Xi .u64 (P1 .sub .i64 16 (P1 .add .i64 6 a))))<|
 (g13 b (P1 .shl .i64 1 (Xi .u64 (P1 .sub .i64 16 (P1 .add .i64 6 a))))).bind fun d=>
 Zy ((0:Int)≤(Xi .u64 (P1 .add .i64 6 a)))<|
 Xa ((P1 .shl .i64 d (Xi .u64 (P1 .add .i64 6 a))),(P1 .add .i64 6 a))):=by kernel_rfl
noncomputable def F83:Fn:=⟨14,[4],[],[],0,[],[],Tryz.f83,[.c (.int .i64),.c (.int .i64)],[.agg hs27],[(156,ZDA.S)]⟩
def ZKZ:F83.S.Ok Tryz.prog 83:=F83.ok Tryz.func83 ⟨ZF2,trivial⟩
noncomputable def g83 (a b:Int):Option (Qt34):=F83.S.g [.i a,.i b]
def Zz1 (a b:Int):g83 a b =
 ((ZEX a b).bind fun c=>
 Xa (1,c.1,c.2,7,0,0,Xc)):=by kernel_rfl
noncomputable def ZxX:Fn:=⟨21,[4],[(2,[(0,.c (.slice 13)),(3,.box [.int .i64,.int .i64,.int .i64]),(5,.c (.int .i64))])],[],0,[],[],Tryz.f157,[.c (.slice 13),.agg [.int .i64,.int .i64,.int .i64]],[.c (.int .i64)],[]⟩
def ZAD:ZxX.S.Ok Tryz.prog 157:=ZxX.ok Tryz.func157
noncomputable def ZDz (a:LL) (b c d:Int):Option (Int):=ZxX.S.g [.l a,.i b,.i c,.i d]
noncomputable def ZfT (k:Nat) (a:LL) (b c d e:Int):Option (Int):=ZxX.lp [0] 0 r0 k [.l a,.i b,.i c,.i d,.i e]
def ZjZ (k:Nat) (b:LL) (c d e a:Int):ZfT (k+1) b c d e a =
 (if P0 .lss a (Xh b:Int) then
 Zj b a hs12 fun (f:Qt25)=>
 if ((P0 .eql f.2.2.1 c)&&((P0 .eql f.2.2.2.1 d)&&((P0 .eql (d4 f).1 e)&&Xb))) then
 Xa (a)
 else
 ZfT k b c d e (P1 .add .i64 a 1)
 else
 Xa ((-1))):=by kernel_rfl
def ZwK (a:LL) (b c d:Int):ZDz a b c d =
 (ZfT Zr a b c d 0):=by kernel_rfl
noncomputable def ZCU:Fn:=⟨13,[2],[],[],0,[],[],Tryz.f192,[.agg [.int .i64,.int .i64]],[.c (.int .i64)],[(185,Zxt.S)]⟩
def ZBf:ZCU.S.Ok Tryz.prog 192:=ZCU.ok Tryz.func192 ⟨ZsU,trivial⟩
noncomputable def Zyo (a b:Int):Option (Int):=ZCU.S.g [.i a,.i b]
def ZwV (b a:Int):Zyo b a =
 ((ZtT b a).bind fun c=>
 if (!c) then
 Xa (0)
 else
 Zy ((0:Int)≤(Xi .u64 a))<|
 Xa ((P1 .add .i64 b (P1 .shl .i64 1 (Xi .u64 a))))):=by kernel_rfl
noncomputable def ZDF:Fn:=⟨25,[4],[],[],0,[],[],Tryz.f158,[.agg [.int .i64,.int .i64],.agg [.int .i64,.int .i64]],[.c (.bool)],[(185,Zxt.S),(192,ZCU.S)]⟩
def ZEE:ZDF.S.Ok Tryz.prog 158:=ZDF.ok Tryz.func158 ⟨ZsU,⟨ZBf,trivial⟩⟩
noncomputable def ZGa (a b c d:Int):Option (Bool):=ZDF.S.g [.i a,.i b,.i c,.i d]
def Zuw (a c b d:Int):ZGa a c b d =
 ((ZtT a c).bind fun e=>
 if e then
 (ZtT b d).bind fun f=>
 if f then
 if P0 .leq a b then
 (Zyo b d).bind fun g=>
 (Zyo a c).bind fun h=>
 Xa ((P0 .leq g h))
 else
 Xa (Xc)
 else
 Xa (Xc)
 else
 Xa (Xc)):=by kernel_rfl
noncomputable def ZDL:Fn:=⟨25,[4],[],[],0,[],[],Tryz.f160,[.agg [.int .i64,.int .i64],.agg [.int .i64,.int .i64]],[.c (.bool)],[(185,Zxt.S),(192,ZCU.S)]⟩
def ZH5:ZDL.S.Ok Tryz.prog 160:=ZDL.ok Tryz.func160 ⟨ZsU,⟨ZBf,trivial⟩⟩
noncomputable def ZBu (a b c d:Int):Option (Bool):=ZDL.S.g [.i a,.i b,.i c,.i d]
def Zv7 (a c b d:Int):ZBu a c b d =
 ((ZtT a c).bind fun e=>
 if e then
 (ZtT b d).bind fun f=>
 if f then
 (Zyo b d).bind fun g=>
 if P0 .lss a g then
 (Zyo a c).bind fun h=>
 Xa ((P0 .lss b h))
 else
 Xa (Xc)
 else
 Xa (Xc)
 else
 Xa (Xc)):=by kernel_rfl
noncomputable def F84:Fn:=⟨64,[6],[(3,[(0,.c (.slice 13)),(2,.c (.slice 7)),(7,.c (.int .i64)),(8,.c (.int .i64))]),(6,[(0,.c (.slice 13)),(2,.c (.slice 7)),(7,.c (.int .i64)),(8,.c (.int .i64)),(9,.c (.int .i64))])],[],0,[],[],Tryz.f84,[.c (.slice 13),.agg [.int .i64,.int .i64,.int .i64],.c (.slice 7)],[.c (.bool)],[(157,ZxX.S),(159,ZCH.S),(158,ZDF.S),(160,ZDL.S)]⟩
def ZKw:F84.S.Ok Tryz.prog 84:=F84.ok Tryz.func84 ⟨ZAD,⟨ZyT,⟨ZEE,⟨ZH5,trivial⟩⟩⟩⟩
noncomputable def g84 (a:LL) (b c d:Int) (e:LL):Option (Bool):=F84.S.g [.l a,.i b,.i c,.i d,.l e]
noncomputable def Zd2 (f:List V→Option (Bool)) (k:Nat) (a b:LL) (c d e:Int):Option (Bool):=F84.lp [3,0] 1 (Zx7 r0 0 f) k [.l a,.l b,.i c,.i d,.i e]
def Zms (t:List V→Option (Bool)) (k:Nat) (c d:LL) (f e h:Int):Zd2 t (k+1) c d f e h =
 (if P0 .lss h (Xh c:Int) then
 Zj c h hs12 fun (a:Qt25)=>
 if P0 .geq f 0 then
 if P0 .eql (d6 a).1 1 then
 (Zpo (d6 a).1 (d6 a).2.1 (d8 a).1 (d8 a).2.1 (df a).1 (df a).2.1 (dg a)).bind fun g=>
 Zj c f hs12 fun (b:Qt25)=>
 (Zpo (d6 b).1 (d6 b).2.1 (d8 b).1 (d8 b).2.1 (df b).1 (df b).2.1 (dg b)).bind fun o=>
 (ZGa g.1 g.2 o.1 o.2).bind fun r=>
 (Zpo (d6 a).1 (d6 a).2.1 (d8 a).1 (d8 a).2.1 (df a).1 (df a).2.1 (dg a)).bind fun p=>
 Zj d e hs27 fun (j:Qt34)=>
 (Zpo j.1 j.2.1 j.2.2.1 j.2.2.2.1 (d4 j).1 (d4 j).2.1 j.2.2.2.2.2.2).bind fun q=>
 (ZBu p.1 p.2 q.1 q.2).bind fun s=>
 if s then
 if (!r) then
 Xa (Xb)
 else
 Zd2 t k c d f e (P1 .add .i64 h 1)
 else
 Zd2 t k c d f e (P1 .add .i64 h 1)
 else
 (Zpo (d6 a).1 (d6 a).2.1 (d8 a).1 (d8 a).2.1 (df a).1 (df a).2.1 (dg a)).bind fun g=>
 Zj d e hs27 fun (b:Qt34)=>
 (Zpo b.1 b.2.1 b.2.2.1 b.2.2.2.1 (d4 b).1 (d4 b).2.1 b.2.2.2.2.2.2).bind fun m=>
 (ZBu g.1 g.2 m.1 m.2).bind fun n=>
 if n then
 Xa (Xb)
 else
 Zd2 t k c d f e (P1 .add .i64 h 1)
 else
 (Zpo (d6 a).1 (d6 a).2.1 (d8 a).1 (d8 a).2.1 (df a).1 (df a).2.1 (dg a)).bind fun g=>
 Zj d e hs27 fun (b:Qt34)=>
 (Zpo b.1 b.2.1 b.2.2.1 b.2.2.2.1 (d4 b).1 (d4 b).2.1 b.2.2.2.2.2.2).bind fun m=>
 (ZBu g.1 g.2 m.1 m.2).bind fun n=>
 if n then
 Xa (Xb)
 else
 Zd2 t k c d f e (P1 .add .i64 h 1)
 else
 t [.l c,.l d,.i f,.i (P1 .add .i64 e 1)]):=by kernel_rfl
noncomputable def ZoN (k:Nat) (a b:LL) (c d:Int):Option (Bool):=F84.lp [2] 0 r0 k [.l a,.l b,.i c,.i d]
def ZlN (k:Nat) (c a:LL) (d b:Int):ZoN (k+1) c a d b =
 (if P0 .lss b (Xh a:Int) then
 Zd2 (F84.lp [2] 0 r0 k) Zr c a d b 0
 else
 Xa (Xc)):=by kernel_rfl
def ZBh (a:LL) (b c d:Int) (e:LL):g84 a b c d e =
 ((ZDz a b c d).bind fun f=>
 ZoN Zr a e f 0):=by kernel_rfl
noncomputable def ZzK:Fn:=⟨31,[6],[(2,[(0,.c (.slice 13)),(1,.c (.int .i64)),(2,.c (.int .i64)),(7,.c (.int .i64))])],[],0,[],[],Tryz.f193,[.c (.slice 13),.c (.int .i64),.c (.int .i64)],[.c (.int .i64)],[]⟩
def ZH2:ZzK.S.Ok Tryz.prog 193:=ZzK.ok Tryz.func193
noncomputable def ZFh (a:LL) (b c:Int):Option (Int):=ZzK.S.g [.l a,.i b,.i c]
noncomputable def Zdy (k:Nat) (a:LL) (b c d:Int):Option (Int):=ZzK.lp [0] 0 r0 k [.l a,.i b,.i c,.i d]
def Zh9 (k:Nat) (b:LL) (c d a:Int):Zdy (k+1) b c d a =
 (if P0 .lss a (Xh b:Int) then
 Zj b a hs12 fun (e:Qt25)=>
 if P0 .eql e.1 c then
 Zj b a hs12 fun (f:Qt25)=>
 if P0 .eql f.2.1 d then
 Xa (a)
 else
 Zdy k b c d (P1 .add .i64 a 1)
 else
 Zdy k b c d (P1 .add .i64 a 1)
 else
 Xa ((-1))):=by kernel_rfl
def Zxh (a:LL) (b c:Int):ZFh a b c =
 (Zdy Zr a b c 0):=by kernel_rfl
noncomputable def F76:Fn:=⟨5,[2],[],[],0,[],[],Tryz.f76,[.c (.slice 3)],[.c (.own Xc 25)],[]⟩
def ZIL:F76.S.Ok Tryz.prog 76:=F76.ok Tryz.func76
noncomputable def g76 (a:LL):Option (LL):=F76.S.g [.l a]
def ZAj (a:LL):g76 a =
 (Zy (Z6 E0 a 24)<|
 Xa (a)):=by kernel_rfl
noncomputable def F25:Fn:=⟨8,[2],[],[],0,[],[],Tryz.f25,[.agg hs16],[.agg hs16],[(76,F76.S)]⟩
def ZzN:F25.S.Ok Tryz.prog 25:=F25.ok Tryz.func25 ⟨ZIL,trivial⟩
noncomputable def g25 (a c d:Int) (e:LL) (f h j k m n:Int) (o:Bool):Option (Qt31):=F25.S.g [.i a,.i c,.i d,.l e,.i f,.i h,.i j,.i k,.i m,.i n,.b o]
def ZAP (a b c:Int) (d:LL) (e f g h i j:Int) (k:Bool):g25 a b c d e f g h i j k =
 ((g76 d).bind fun l=>
 Xa (a,b,c,l,e,f,g,h,i,j,k)):=by kernel_rfl
noncomputable def ZCG:Fn:=⟨32,[2],[(3,[(0,.c (.slice 13)),(3,.c (.own Xc 71)),(4,.c (.int .i64))])],[],0,[],[],Tryz.f194,[.c (.slice 13)],[.c (.own Xc 71)],[(25,F25.S)]⟩
def ZGF:ZCG.S.Ok Tryz.prog 194:=ZCG.ok Tryz.func194 ⟨ZzN,trivial⟩
noncomputable def ZtU (a:LL):Option (LL):=ZCG.S.g [.l a]
noncomputable def Zf7 (k:Nat) (a b:LL) (c:Int):Option (LL):=ZCG.lp [0] 0 r0 k [.l a,.l b,.i c]
def Zje (k:Nat) (c e:LL) (d:Int):Zf7 (k+1) c e d =
 (if P0 .lss d (Xh c:Int) then
 Zj c d hs12 fun (f:Qt25)=>
 Zj c d hs12 fun (g:Qt25)=>
 Zj c d hs12 fun (b:Qt25)=>
 (g25 b.2.2.1 b.2.2.2.1 (d4 b).1 (d4 b).2.1 (d6 b).1 (d6 b).2.1 (d8 b).1 (d8 b).2.1 (df b).1 (df b).2.1 (dg b)).bind fun a=>
 Zy (Z6 e (E0++[[I f.1,I g.2.1,I a.1,I a.2.1,I a.2.2.1,AV.slice Xc 3 a.2.2.2.1,I (d4 a).1,I (d4 a).2.1,I (d6 a).1,I (d6 a).2.1,I (d8 a).1,I (d8 a).2.1,B a.2.2.2.2.2.2.2.2.2.2]]) 120)<|
 Zf7 k c (e++(E0++[[I f.1,I g.2.1,I a.1,I a.2.1,I a.2.2.1,AV.slice Xc 3 a.2.2.2.1,I (d4 a).1,I (d4 a).2.1,I (d6 a).1,I (d6 a).2.1,I (d8 a).1,I (d8 a).2.1,B a.2.2.2.2.2.2.2.2.2.2]])) (P1 .add .i64 d 1)
 else
 Xa (e)):=by kernel_rfl
def Zu4 (a:LL):ZtU a =
 (Zf7 Zr a E0 0):=by kernel_rfl
noncomputable def ZA5:Fn:=⟨62,[4,5],[(4,[(0,.c (.slice 13)),(3,.box hs12),(6,.c (.int .i64))])],[],0,[],[],Tryz.f161,[.c (.slice 13),.agg hs12],[.c (.own Xc 71),.c (.bool)],[(157,ZxX.S),(193,ZzK.S),(82,F82.S),(194,ZCG.S),(25,F25.S)]⟩
def ZHr:ZA5.S.Ok Tryz.prog 161:=ZA5.ok Tryz.func161 ⟨ZAD,⟨ZH2,⟨ZEA,⟨ZGF,⟨ZzN,trivial⟩⟩⟩⟩⟩
noncomputable def ZG0 (a:LL) (c d e f h:Int) (j:LL) (k m n o p q:Int) (r:Bool):Option (LL×Bool):=ZA5.S.g [.l a,.i c,.i d,.i e,.i f,.i h,.l j,.i k,.i m,.i n,.i o,.i p,.i q,.b r]
noncomputable def Zfu (k:Nat) (a:LL) (c d e f g:Int) (h:LL) (j m n o p q:Int) (r:Bool) (s:Int):Option (LL×Bool):=ZA5.lp [0,1,0,1,0] 0 r0 k [.l a,.i c,.i d,.i e,.i f,.i g,.l h,.i j,.i m,.i n,.i o,.i p,.i q,.b r,.i s]
def ZiY (k:Nat) (d:LL) (e f h i j:Int) (l:LL) (m n o p q r:Int) (s:Bool) (c:Int):Zfu (k+1) d e f h i j l m n o p q r s c =
 (if P0 .lss c (Xh d:Int) then
 Zj d c hs12 fun (g:Qt25)=>
 (g82 h i j g.2.2.1 g.2.2.2.1 (d4 g).1).bind fun w=>
 if (!w) then
 Zfu k d e f h i j l m n o p q r s (P1 .add .i64 c 1)
 else
 Zy ((0:Int)≤c)<|
 Zy ((c:Int)≤(Xh d:Int))<|
 (ZtU (List.take (XJ c) d)).bind fun t=>
 (g25 h i j l m n o p q r s).bind fun a=>
 Zy (Z6 t (E0++[[I e,I f,I a.1,I a.2.1,I a.2.2.1,AV.slice Xc 3 a.2.2.2.1,I (d4 a).1,I (d4 a).2.1,I (d6 a).1,I (d6 a).2.1,I (d8 a).1,I (d8 a).2.1,B a.2.2.2.2.2.2.2.2.2.2]]) 120)<|
 Zy ((0:Int)≤c)<|
 Zy ((c:Int)≤(Xh d:Int))<|
 (ZtU (Uw (XJ c) d)).bind fun u=>
 Zy (Z6 (t++(E0++[[I e,I f,I a.1,I a.2.1,I a.2.2.1,AV.slice Xc 3 a.2.2.2.1,I (d4 a).1,I (d4 a).2.1,I (d6 a).1,I (d6 a).2.1,I (d8 a).1,I (d8 a).2.1,B a.2.2.2.2.2.2.2.2.2.2]])) u 120)<|
 Xa (((t++(E0++[[I e,I f,I a.1,I a.2.1,I a.2.2.1,AV.slice Xc 3 a.2.2.2.1,I (d4 a).1,I (d4 a).2.1,I (d6 a).1,I (d6 a).2.1,I (d8 a).1,I (d8 a).2.1,B a.2.2.2.2.2.2.2.2.2.2]]))++u),Xb)
 else
 Zy ((0:Int)≤c)<|
 Zy ((c:Int)≤(Xh d:Int))<|
 (ZtU (List.take (XJ c) d)).bind fun g=>
 (g25 h i j l m n o p q r s).bind fun b=>
 Zy (Z6 g (E0++[[I e,I f,I b.1,I b.2.1,I b.2.2.1,AV.slice Xc 3 b.2.2.2.1,I (d4 b).1,I (d4 b).2.1,I (d6 b).1,I (d6 b).2.1,I (d8 b).1,I (d8 b).2.1,B b.2.2.2.2.2.2.2.2.2.2]]) 120)<|
 Zy ((0:Int)≤c)<|
 Zy ((c:Int)≤(Xh d:Int))<|
 (ZtU (Uw (XJ c) d)).bind fun v=>
 Zy (Z6 (g++(E0++[[I e,I f,I b.1,I b.2.1,I b.2.2.1,AV.slice Xc 3 b.2.2.2.1,I (d4 b).1,I (d4 b).2.1,I (d6 b).1,I (d6 b).2.1,I (d8 b).1,I (d8 b).2.1,B b.2.2.2.2.2.2.2.2.2.2]])) v 120)<|
 Xa (((g++(E0++[[I e,I f,I b.1,I b.2.1,I b.2.2.1,AV.slice Xc 3 b.2.2.2.1,I (d4 b).1,I (d4 b).2.1,I (d6 b).1,I (d6 b).2.1,I (d8 b).1,I (d8 b).2.1,B b.2.2.2.2.2.2.2.2.2.2]]))++v),Xb)):=by kernel_rfl
def ZuT (a:LL) (b c d e f:Int) (g:LL) (h i j k l m:Int) (n:Bool):ZG0 a b c d e f g h i j k l m n =
 ((ZDz a d e f).bind fun o=>
 if P0 .geq o 0 then
 Xa (E0,Xc)
 else
 (ZFh a b c).bind fun p=>
 if P0 .geq p 0 then
 Xa (E0,Xc)
 else
 Zfu Zr a b c d e f g h i j k l m n 0):=by kernel_rfl
noncomputable def F85:Fn:=⟨24,[8],[],[],0,[],[],Tryz.f85,[.c (.slice 13),.c (.int .i64),.c (.int .i64),.agg hs16],[.c (.slice 13)],[(161,ZA5.S)]⟩
def ZLg:F85.S.Ok Tryz.prog 85:=F85.ok Tryz.func85 ⟨ZHr,trivial⟩
noncomputable def g85 (a:LL) (c d e f h:Int) (j:LL) (k m n o p q:Int) (r:Bool):Option (LL):=F85.S.g [.l a,.i c,.i d,.i e,.i f,.i h,.l j,.i k,.i m,.i n,.i o,.i p,.i q,.b r]
def ZBs (a:LL) (b c d e f:Int) (g:LL) (h i j k l m:Int) (n:Bool):g85 a b c d e f g h i j k l m n =
 ((ZG0 a b c d e f g h i j k l m n).bind fun o=>
 if (!o.2) then
 Xa (a)
 else
 Xa (o.1)):=by kernel_rfl
noncomputable def F86:Fn:=⟨11,[4],[],[],0,[],[],Tryz.f86,[.agg hs27,.c (.int .i64)],[.agg hs27],[]⟩
def ZKO:F86.S.Ok Tryz.prog 86:=F86.ok Tryz.func86
noncomputable def g86 (a c d e f h:Int) (j:Bool) (k:Int):Option (Qt34):=F86.S.g [.i a,.i c,.i d,.i e,.i f,.i h,.b j,.i k]
def Zzk (a b c d e f:Int) (g:Bool) (h:Int):g86 a b c d e f g h =
 (Xa (a,b,c,(P1 .and .i64 d h),e,f,g)):=by kernel_rfl
noncomputable def F87:Fn:=⟨136,[14,15],[(16,[(1,.c (.int .i64)),(2,.c (.int .i64)),(3,.c (.int .i64)),(4,.c (.int .i64)),(5,.c (.int .i64)),(6,.c (.int .i64)),(7,.box hs27),(16,.c (.bool)),(17,.c (.int .i64)),(19,.c (.own Xc 31)),(20,.c (.int .i64))])],[],0,[],[],Tryz.f87,[.agg hs27,.c (.int .i64),.c (.int .i64),.c (.int .i64),.c (.int .i64),.c (.int .i64),.c (.int .i64)],[.c (.slice 7),.c (.int .i64)],[(130,ZtM.S),(162,ZC4.S),(163,ZB2.S)]⟩
def ZK2:F87.S.Ok Tryz.prog 87:=F87.ok Tryz.func87 ⟨Zpg,⟨ZAR,⟨Zzd,trivial⟩⟩⟩
noncomputable def g87 (a c d e f h:Int) (j:Bool) (k l m n o p:Int):Option (LL×Int):=F87.S.g [.i a,.i c,.i d,.i e,.i f,.i h,.b j,.i k,.i l,.i m,.i n,.i o,.i p]
noncomputable def WD (k:Nat) (a c d e f g h j m n o p:Int) (q r:Bool) (s:Int) (t:LL) (u:Int):Option (LL×Int):=F87.lp [0,1,1,1,0,1,0,0,1,1,1,1,0,0,1,3,1,1,1,0,1,0] 0 r0 k [.i a,.i c,.i d,.i e,.i f,.i g,.i h,.i j,.i m,.i n,.i o,.i p,.b q,.b r,.i s,.l t,.i u]
def ZmQ (k:Nat) (b c j l d m o e p f q r:Int) (g n:Bool) (h:Int) (i:LL) (a:Int):WD (k+1) b c j l d m o e p f q r g n h i a =
 (if P0 .lss a m then
 if n then
 Zy (Z6 i (E0++[[I b,I (P1 .add .i64 (P1 .add .i64 e d) (P1 .mul .i64 a h)),I c,I f,I l,I j,B g]]) 56)<|
 WD k b c j l d m o e p f q r g n h (i++(E0++[[I b,I (P1 .add .i64 (P1 .add .i64 e d) (P1 .mul .i64 a h)),I c,I f,I l,I j,B g]])) (P1 .add .i64 a 1)
 else
 Zy (Z6 i (E0++[[I b,I (P1 .add .i64 (P1 .add .i64 e d) (P1 .mul .i64 a h)),I c,I f,I 0,I 0,B g]]) 56)<|
 WD k b c j l d m o e p f q r g n h (i++(E0++[[I b,I (P1 .add .i64 (P1 .add .i64 e d) (P1 .mul .i64 a h)),I c,I f,I 0,I 0,B g]])) (P1 .add .i64 a 1)
 else
 Xa (i,0)):=by kernel_rfl
def ZCD (g i b h j k:Int) (f:Bool) (c a l m d e:Int):g87 g i b h j k f c a l m d e =
 ((ZxA g i b h j k f).bind fun n=>
 if (!n) then
 Xa (E0,5)
 else
 if P0 .neq g 1 then
 Xa (E0,5)
 else
 if P0 .eql (P1 .and .i64 h 2) 0 then
 Xa (E0,8)
 else
 (ZDJ c a).bind fun o=>
 if (!o) then
 Xa (E0,1)
 else
 if P0 .eql c 3 then
 (ZDe m l).bind fun p=>
 if (!p) then
 Xa (E0,1)
 else
 if P0 .lss e 1 then
 Xa (E0,1)
 else
 if P0 .gtr e 8 then
 Xa (E0,1)
 else
 if P0 .lss d 0 then
 Xa (E0,1)
 else
 if f then
 if P0 .neq c 1 then
 if P0 .neq c 2 then
 Xa (E0,5)
 else
 Zy ((0:Int)≤(Xi .u64 a))<|
 Zy ((0:Int)≤(Xi .u64 b))<|
 Zy (((P1 .shl .i64 1 (Xi .u64 a)):Int)≠0)<|
 if (P0 .neq (P1 .rem .i64 d (P1 .shl .i64 1 (Xi .u64 a))) 0) then
 Xa (E0,6)
 else
 if (P0 .gtr d (P1 .shl .i64 1 (Xi .u64 b))) then
 Xa (E0,6)
 else
 if (P0 .gtr (P1 .mul .i64 e (P1 .shl .i64 1 (Xi .u64 a))) (P1 .sub .i64 (P1 .shl .i64 1 (Xi .u64 b)) d)) then
 Xa (E0,6)
 else
 if P0 .eql c 1 then
 if P0 .geq a b then
 Xa (E0,6)
 else
 WD Zr c a l m d e g i b h j k f (P0 .eql c 3) (P1 .shl .i64 1 (Xi .u64 a)) E0 0
 else
 WD Zr c a l m d e g i b h j k f (P0 .eql c 3) (P1 .shl .i64 1 (Xi .u64 a)) E0 0
 else
 Zy ((0:Int)≤(Xi .u64 a))<|
 Zy ((0:Int)≤(Xi .u64 b))<|
 Zy (((P1 .shl .i64 1 (Xi .u64 a)):Int)≠0)<|
 if (P0 .neq (P1 .rem .i64 d (P1 .shl .i64 1 (Xi .u64 a))) 0) then
 Xa (E0,6)
 else
 if (P0 .gtr d (P1 .shl .i64 1 (Xi .u64 b))) then
 Xa (E0,6)
 else
 if (P0 .gtr (P1 .mul .i64 e (P1 .shl .i64 1 (Xi .u64 a))) (P1 .sub .i64 (P1 .shl .i64 1 (Xi .u64 b)) d)) then
 Xa (E0,6)
 else
 if P0 .eql c 1 then
 if P0 .geq a b then
 Xa (E0,6)
 else
 WD Zr c a l m d e g i b h j k f (P0 .eql c 3) (P1 .shl .i64 1 (Xi .u64 a)) E0 0
 else
 WD Zr c a l m d e g i b h j k f (P0 .eql c 3) (P1 .shl .i64 1 (Xi .u64 a)) E0 0
 else
 Zy ((0:Int)≤(Xi .u64 a))<|
 Zy ((0:Int)≤(Xi .u64 b))<|
 Zy (((P1 .shl .i64 1 (Xi .u64 a)):Int)≠0)<|
 if (P0 .neq (P1 .rem .i64 d (P1 .shl .i64 1 (Xi .u64 a))) 0) then
 Xa (E0,6)
 else
 if (P0 .gtr d (P1 .shl .i64 1 (Xi .u64 b))) then
 Xa (E0,6)
 else
 if (P0 .gtr (P1 .mul .i64 e (P1 .shl .i64 1 (Xi .u64 a))) (P1 .sub .i64 (P1 .shl .i64 1 (Xi .u64 b)) d)) then
 Xa (E0,6)
 else
 if P0 .eql c 1 then
 if P0 .geq a b then
 Xa (E0,6)
 else
 WD Zr c a l m d e g i b h j k f (P0 .eql c 3) (P1 .shl .i64 1 (Xi .u64 a)) E0 0
 else
 WD Zr c a l m d e g i b h j k f (P0 .eql c 3) (P1 .shl .i64 1 (Xi .u64 a)) E0 0
 else
 if P0 .lss e 1 then
 Xa (E0,1)
 else
 if P0 .gtr e 8 then
 Xa (E0,1)
 else
 if P0 .lss d 0 then
 Xa (E0,1)
 else
 if f then
 if P0 .neq c 1 then
 if P0 .neq c 2 then
 Xa (E0,5)
 else
 Zy ((0:Int)≤(Xi .u64 a))<|
 Zy ((0:Int)≤(Xi .u64 b))<|
 Zy (((P1 .shl .i64 1 (Xi .u64 a)):Int)≠0)<|
 if (P0 .neq (P1 .rem .i64 d (P1 .shl .i64 1 (Xi .u64 a))) 0) then
 Xa (E0,6)
 else
 if (P0 .gtr d (P1 .shl .i64 1 (Xi .u64 b))) then
 Xa (E0,6)
 else
 if (P0 .gtr (P1 .mul .i64 e (P1 .shl .i64 1 (Xi .u64 a))) (P1 .sub .i64 (P1 .shl .i64 1 (Xi .u64 b)) d)) then
 Xa (E0,6)
 else
 if P0 .eql c 1 then
 if P0 .geq a b then
 Xa (E0,6)
 else
 WD Zr c a l m d e g i b h j k f (P0 .eql c 3) (P1 .shl .i64 1 (Xi .u64 a)) E0 0
 else
 WD Zr c a l m d e g i b h j k f (P0 .eql c 3) (P1 .shl .i64 1 (Xi .u64 a)) E0 0
 else
 Zy ((0:Int)≤(Xi .u64 a))<|
 Zy ((0:Int)≤(Xi .u64 b))<|
 Zy (((P1 .shl .i64 1 (Xi .u64 a)):Int)≠0)<|
 if (P0 .neq (P1 .rem .i64 d (P1 .shl .i64 1 (Xi .u64 a))) 0) then
 Xa (E0,6)
 else
 if (P0 .gtr d (P1 .shl .i64 1 (Xi .u64 b))) then
 Xa (E0,6)
 else
 if (P0 .gtr (P1 .mul .i64 e (P1 .shl .i64 1 (Xi .u64 a))) (P1 .sub .i64 (P1 .shl .i64 1 (Xi .u64 b)) d)) then
 Xa (E0,6)
 else
 if P0 .eql c 1 then
 if P0 .geq a b then
 Xa (E0,6)
 else
 WD Zr c a l m d e g i b h j k f (P0 .eql c 3) (P1 .shl .i64 1 (Xi .u64 a)) E0 0
 else
 WD Zr c a l m d e g i b h j k f (P0 .eql c 3) (P1 .shl .i64 1 (Xi .u64 a)) E0 0
 else
 Zy ((0:Int)≤(Xi .u64 a))<|
 Zy ((0:Int)≤(Xi .u64 b))<|
 Zy (((P1 .shl .i64 1 (Xi .u64 a)):Int)≠0)<|
 if (P0 .neq (P1 .rem .i64 d (P1 .shl .i64 1 (Xi .u64 a))) 0) then
 Xa (E0,6)
 else
 if (P0 .gtr d (P1 .shl .i64 1 (Xi .u64 b))) then
 Xa (E0,6)
 else
 if (P0 .gtr (P1 .mul .i64 e (P1 .shl .i64 1 (Xi .u64 a))) (P1 .sub .i64 (P1 .shl .i64 1 (Xi .u64 b)) d)) then
 Xa (E0,6)
 else
 if P0 .eql c 1 then
 if P0 .geq a b then
 Xa (E0,6)
 else
 WD Zr c a l m d e g i b h j k f (P0 .eql c 3) (P1 .shl .i64 1 (Xi .u64 a)) E0 0
 else
 WD Zr c a l m d e g i b h j k f (P0 .eql c 3) (P1 .shl .i64 1 (Xi .u64 a)) E0 0):=by kernel_rfl
noncomputable def F88:Fn:=⟨49,[6,7],[],[],0,[],[],Tryz.f88,[.agg hs16,.agg [.int .i64,.int .i64,.int .i64],.agg hs27],[.agg hs16,.c (.int .i64)],[(61,F61.S),(128,Zt8.S),(130,ZtM.S),(78,F78.S),(76,F76.S)]⟩
def ZKa:F88.S.Ok Tryz.prog 88:=F88.ok Tryz.func88 ⟨ZxY,⟨ZoS,⟨Zpg,⟨ZFi,⟨ZIL,trivial⟩⟩⟩⟩⟩
noncomputable def g88 (a c d:Int) (e:LL) (f h j k m n:Int) (o:Bool) (p q r s t u v w x:Int) (y:Bool):Option (Qt28):=F88.S.g [.i a,.i c,.i d,.l e,.i f,.i h,.i j,.i k,.i m,.i n,.b o,.i p,.i q,.i r,.i s,.i t,.i u,.i v,.i w,.i x,.b y]
def Zzo (a b c:Int) (d:LL) (o p q r s t:Int) (u:Bool) (e f g h i j k l m:Int) (n:Bool):g88 a b c d o p q r s t u e f g h i j k l m n =
 ((g61 a b c d o p q r s t u).bind fun w=>
 if (!w) then
 Xa (0,0,0,E0,0,0,0,0,0,0,Xc,1)
 else
 (ZtN e f g).bind fun x=>
 if (!x) then
 Xa (0,0,0,E0,0,0,0,0,0,0,Xc,1)
 else
 (ZxA h i j k l m n).bind fun y=>
 if (!y) then
 Xa (0,0,0,E0,0,0,0,0,0,0,Xc,1)
 else
 if ((P0 .eql e a)&&((P0 .eql f b)&&((P0 .eql g c)&&Xb))) then
 Xa (0,0,0,E0,0,0,0,0,0,0,Xc,1)
 else
 (g78 d e f g).bind fun z=>
 if z then
 Xa (0,0,0,E0,0,0,0,0,0,0,Xc,1)
 else
 if P0 .eql (Xh d:Int) 8 then
 Xa (0,0,0,E0,0,0,0,0,0,0,Xc,9)
 else
 (g76 d).bind fun v=>
 Zy (Z6 v (E0++[[I a,I b,I c]]) 24)<|
 Xa (e,f,g,(v++(E0++[[I a,I b,I c]])),h,i,j,k,l,m,n,0)):=by kernel_rfl
noncomputable def F31:Fn:=⟨146,[6],[(18,[(0,.c (.slice 13)),(2,.c (.int .i64)),(7,.c (.int .i64)),(8,.c (.int .i64)),(10,.box hs16),(11,.c (.slice 7)),(16,.c (.int .i64))])],[],0,[],[],Tryz.f31,[.c (.slice 13),.agg hs18,.c (.int .i64)],[.c (.slice 13)],[(13,F13.S),(83,F83.S),(84,F84.S),(85,F85.S),(86,F86.S),(87,F87.S),(88,F88.S)]⟩
def ZKm:F31.S.Ok Tryz.prog 31:=F31.ok Tryz.func31 ⟨Zrl,⟨ZKZ,⟨ZKw,⟨ZLg,⟨ZKO,⟨ZK2,⟨ZKa,trivial⟩⟩⟩⟩⟩⟩⟩
noncomputable def g31 (a:LL) (c:Bool) (d e f h j k m n:Int) (o:Bool) (p:Int):Option (LL):=F31.S.g [.l a,.b c,.i d,.i e,.i f,.i h,.i j,.i k,.i m,.i n,.b o,.i p]
noncomputable def Zj1 (k:Nat) (a:LL) (c d e f g h:Int) (j:LL) (m n o p q r:Int) (s:Bool) (t:LL) (u:Int):Option (LL):=F31.lp [2,1,1,5,8,1,0,1,0] 0 r0 k [.l a,.i c,.i d,.i e,.i f,.i g,.i h,.l j,.i m,.i n,.i o,.i p,.i q,.i r,.b s,.l t,.i u]
def ZlK (k:Nat) (d:LL) (g e h i j l:Int) (m:LL) (n o p q r s:Int) (t:Bool) (f:LL) (c:Int):Zj1 (k+1) d g e h i j l m n o p q r s t f c =
 (if P0 .lss c (Xh f:Int) then
 Zj f c hs27 fun (b:Qt34)=>
 (g88 i j l m n o p q r s t e g c b.1 b.2.1 b.2.2.1 b.2.2.2.1 (d4 b).1 (d4 b).2.1 b.2.2.2.2.2.2).bind fun a=>
 if P0 .neq a.2.2.2.2.2.2.2.2.2.2.2 0 then
 Xa (d)
 else
 (g85 d e (P1 .add .i64 h c) a.1 a.2.1 a.2.2.1 a.2.2.2.1 (d4 a).1 (d4 a).2.1 (d6 a).1 (d6 a).2.1 (d8 a).1 (d8 a).2.1 (df a).1).bind fun u=>
 Zj1 k u g e h i j l m n o p q r s t f (P1 .add .i64 c 1)
 else
 Xa (d)):=by kernel_rfl
def ZCT (c:LL) (o:Bool) (p q r s g h t j:Int) (u:Bool) (f:Int):g31 c o p q r s g h t j u f =
 ((g13 q 4).bind fun e=>
 (g13 r 8).bind fun i=>
 if o then
 (g83 g h).bind fun b=>
 (g84 c 0 0 0 (E0++[[I b.1,I b.2.1,I b.2.2.1,I b.2.2.2.1,I (d4 b).1,I (d4 b).2.1,B b.2.2.2.2.2.2]])).bind fun k=>
 if k then
 Xa (c)
 else
 (g85 c e i e f 0 E0 b.1 b.2.1 b.2.2.1 b.2.2.2.1 (d4 b).1 (d4 b).2.1 b.2.2.2.2.2.2).bind fun l=>
 Xa (l)
 else
 if P0 .eql (Xh c:Int) 0 then
 (g83 g h).bind fun b=>
 (g84 c 0 0 0 (E0++[[I b.1,I b.2.1,I b.2.2.1,I b.2.2.2.1,I (d4 b).1,I (d4 b).2.1,B b.2.2.2.2.2.2]])).bind fun k=>
 if k then
 Xa (c)
 else
 (g85 c e i e f 0 E0 b.1 b.2.1 b.2.2.1 b.2.2.2.1 (d4 b).1 (d4 b).2.1 b.2.2.2.2.2.2).bind fun l=>
 Xa (l)
 else
 (g13 p (Xh c:Int)).bind fun b=>
 Zj c b hs12 fun (a:Qt25)=>
 (g13 j 8).bind fun w=>
 (g86 (d6 a).1 (d6 a).2.1 (d8 a).1 (d8 a).2.1 (df a).1 (df a).2.1 (dg a) w).bind fun d=>
 if (!u) then
 (g13 s 6).bind fun v=>
 (g13 h 10).bind fun x=>
 Zj ((((((E0++[[I (P1 .add .i64 6 x)]])++[[I 12]])++[[I 12]])++[[I 6]])++[[I 10]])++[[I 16]]) (P1 .sub .i64 (P1 .add .i64 1 v) 1) [.int .i64] fun (m:Int)=>
 (g13 j 2).bind fun y=>
 (g13 g 8).bind fun z=>
 Zy ((0:Int)≤(Xi .u64 m))<|
 (g13 t 3).bind fun A=>
 (g87 (d6 a).1 (d6 a).2.1 (d8 a).1 (d8 a).2.1 (df a).1 (df a).2.1 (dg a) (P1 .add .i64 1 v) m y 32 (P1 .shl .i64 z (Xi .u64 m)) (P1 .add .i64 1 A)).bind fun n=>
 if P0 .neq n.2 0 then
 Xa (c)
 else
 (g84 c a.2.2.1 a.2.2.2.1 (d4 a).1 n.1).bind fun C=>
 if C then
 Xa (c)
 else
 Zj1 Zr c f e i a.2.2.1 a.2.2.2.1 (d4 a).1 (d4 a).2.1 (d6 a).1 (d6 a).2.1 (d8 a).1 (d8 a).2.1 (df a).1 (df a).2.1 (dg a) n.1 0
 else
 Zj1 Zr c f e i a.2.2.1 a.2.2.2.1 (d4 a).1 (d4 a).2.1 (d6 a).1 (d6 a).2.1 (d8 a).1 (d8 a).2.1 (df a).1 (df a).2.1 (dg a) (E0++[[I d.1,I d.2.1,I d.2.2.1,I d.2.2.2.1,I (d4 d).1,I (d4 d).2.1,B d.2.2.2.2.2.2]]) 0):=by kernel_rfl
noncomputable def F11:Fn:=⟨29,[2],[(3,[(0,.c (.slice 10)),(3,.c (.slice 13)),(4,.c (.int .i64))])],[],0,[],[],Tryz.f11,[.c (.slice 10)],[.c (.slice 13)],[(31,F31.S)]⟩
def ZJA:F11.S.Ok Tryz.prog 11:=F11.ok Tryz.func11 ⟨ZKm,trivial⟩
noncomputable def g11 (a:LL):Option (LL):=F11.S.g [.l a]
noncomputable def Zsz (k:Nat) (a b:LL) (c:Int):Option (LL):=F11.lp [0] 0 r0 k [.l a,.l b,.i c]
def ZmG (k:Nat) (d b:LL) (c:Int):Zsz (k+1) d b c =
 (if P0 .lss c (Xh d:Int) then
 if P0 .lss c 40 then
 if P0 .lss (Xh b:Int) 24 then
 Zj d c hs18 fun (a:Bool×Int×Int×Int×Int×Int×Int×Int×Int×Bool)=>
 (g31 b a.1 a.2.1 a.2.2.1 a.2.2.2.1 (d4 a).1 (d4 a).2.1 (d6 a).1 (d6 a).2.1 (d8 a).1 a.2.2.2.2.2.2.2.2.2 (P1 .add .i64 c 1)).bind fun e=>
 Zsz k d e (P1 .add .i64 c 1)
 else
 Xa (b)
 else
 Xa (b)
 else
 Xa (b)):=by kernel_rfl
def ZyO (a:LL):g11 a =
 (Zsz Zr a E0 0):=by kernel_rfl
noncomputable def F21:Fn:=⟨17,[4],[],[],0,[],[],Tryz.f21,[.c (.slice 1),.c (.int .i64)],[.c (.int .i64)],[]⟩
def ZAp:F21.S.Ok Tryz.prog 21:=F21.ok Tryz.func21
noncomputable def g21 (a:LL) (b:Int):Option (Int):=F21.S.g [.l a,.i b]
def Zuf (b:LL) (a:Int):g21 b a =
 (if P0 .lss a 0 then
 Xa (0)
 else
 if P0 .geq a (Xh b:Int) then
 Xa (0)
 else
 Zj b a [.int .i64] fun (c:Int)=>
 Xa (c)):=by kernel_rfl
noncomputable def F22:Fn:=⟨10,[2],[],[],0,[],[],Tryz.f22,[.c (.int .i64)],[.agg [.int .i64,.int .i64,.int .i64]],[(13,F13.S)]⟩
def ZEB:F22.S.Ok Tryz.prog 22:=F22.ok Tryz.func22 ⟨Zrl,trivial⟩
noncomputable def g22 (a:Int):Option (Int×Int×Int):=F22.S.g [.i a]
def ZyD (a:Int):g22 a =
 ((g13 a 4).bind fun b=>
 Zy ((4:Int)≠0)<|
 (g13 (P1 .quo .i64 a 4) 20).bind fun c=>
 Xa (b,(P1 .add .i64 1 c),0)):=by kernel_rfl
noncomputable def F24:Fn:=⟨12,[4],[],[],0,[],[],Tryz.f24,[.c (.slice 1),.c (.int .i64)],[.c (.slice 1)],[]⟩
def ZId:F24.S.Ok Tryz.prog 24:=F24.ok Tryz.func24
noncomputable def g24 (a:LL) (b:Int):Option (LL):=F24.S.g [.l a,.i b]
def ZCx (b:LL) (a:Int):g24 b a =
 (if P0 .geq a (Xh b:Int) then
 Xa (E0)
 else
 Zy ((0:Int)≤a)<|
 Zy ((a:Int)≤(Xh b:Int))<|
 Xa ((Uw (XJ a) b))):=by kernel_rfl
noncomputable def F23:Fn:=⟨69,[4],[],[],0,[],[],Tryz.f23,[.c (.slice 1),.agg hs16],[.agg hs6],[(21,F21.S),(22,F22.S),(13,F13.S),(25,F25.S)]⟩
def ZIK:F23.S.Ok Tryz.prog 23:=F23.ok Tryz.func23 ⟨ZAp,⟨ZEB,⟨Zrl,⟨ZzN,trivial⟩⟩⟩⟩
noncomputable def g23 (a:LL) (c d e:Int) (f:LL) (h j k m n o:Int) (p:Bool):Option (Qt10):=F23.S.g [.l a,.i c,.i d,.i e,.l f,.i h,.i j,.i k,.i m,.i n,.i o,.b p]
def Zzt (a:LL) (e f g:Int) (h:LL) (i j k l m n:Int) (o:Bool):g23 a e f g h i j k l m n o =
 ((g21 a 0).bind fun D=>
 (g22 D).bind fun c=>
 (g21 a 1).bind fun E=>
 (g13 E 3).bind fun p=>
 (g21 a 2).bind fun G=>
 (g13 G 2).bind fun H=>
 Zj ((E0++[[I 32]])++[[I 39]]) H [.int .i64] fun (q:Int)=>
 (g25 e f g h i j k l m n o).bind fun b=>
 (g21 a 3).bind fun J=>
 (g13 J 6).bind fun d=>
 (g21 a 4).bind fun K=>
 (g13 K 8).bind fun r=>
 (g21 a 5).bind fun L=>
 (g13 L 8).bind fun s=>
 (g21 a 6).bind fun M=>
 (g13 M 4).bind fun t=>
 (g21 a 7).bind fun N=>
 (g13 N 8).bind fun u=>
 (g21 a 8).bind fun O=>
 (g13 O 6).bind fun v=>
 (g21 a 9).bind fun P=>
 (g13 P 3).bind fun w=>
 (g21 a 10).bind fun Q=>
 (g13 Q 2).bind fun x=>
 (g21 a 11).bind fun R=>
 (g13 R 8).bind fun y=>
 Zy ((0:Int)≤12)<|
 (g21 a 12).bind fun T=>
 (g13 T 3).bind fun z=>
 (g21 a 13).bind fun A=>
 (g21 a 14).bind fun C=>
 if P0 .eql (P1 .add .i64 1 d) 1 then
 Xa (c.1,c.2.1,c.2.2,(P1 .add .i64 1 d),r,s,t,u,(P1 .add .i64 1 v),(P1 .add .i64 12 w),x,(P1 .shl .i64 y 12),(P1 .add .i64 1 z),A,C,p,q,0,0,0,E0,0,0,0,0,0,0,Xc)
 else
 Xa (c.1,c.2.1,c.2.2,(P1 .add .i64 1 d),r,s,t,u,(P1 .add .i64 1 v),(P1 .add .i64 12 w),x,(P1 .shl .i64 y 12),(P1 .add .i64 1 z),A,C,p,q,b.1,b.2.1,b.2.2.1,b.2.2.2.1,(d4 b).1,(d4 b).2.1,(d6 b).1,(d6 b).2.1,(d8 b).1,(d8 b).2.1,b.2.2.2.2.2.2.2.2.2.2)):=by kernel_rfl
noncomputable def F77:Fn:=⟨15,[6],[],[],0,[],[],Tryz.f77,[.c (.int .i64),.c (.int .i64),.c (.int .i64)],[.agg [.int .i64,.int .i64,.int .i64]],[(13,F13.S)]⟩
def ZJT:F77.S.Ok Tryz.prog 77:=F77.ok Tryz.func77 ⟨Zrl,trivial⟩
noncomputable def g77 (a b c:Int):Option (Int×Int×Int):=F77.S.g [.i a,.i b,.i c]
def Zzh (a b c:Int):g77 a b c =
 ((g13 a 4).bind fun d=>
 (g13 b 12).bind fun e=>
 (g13 c 3).bind fun f=>
 Xa (d,(P1 .add .i64 1 e),f)):=by kernel_rfl
noncomputable def F26:Fn:=⟨41,[2],[(3,[(0,.c (.slice 1)),(3,.c (.own Xc 25)),(4,.c (.int .i64))])],[],0,[],[],Tryz.f26,[.c (.slice 1)],[.c (.own Xc 25)],[(77,F77.S),(78,F78.S)]⟩
def ZKF:F26.S.Ok Tryz.prog 26:=F26.ok Tryz.func26 ⟨ZJT,⟨ZFi,trivial⟩⟩
noncomputable def g26 (a:LL):Option (LL):=F26.S.g [.l a]
noncomputable def Zli (k:Nat) (a b:LL) (c:Int):Option (LL):=F26.lp [0] 0 r0 k [.l a,.l b,.i c]
def ZlH (k:Nat) (c b:LL) (d:Int):Zli (k+1) c b d =
 (if P0 .lss d (Xh c:Int) then
 if P0 .lss (Xh b:Int) 8 then
 Zj c d [.int .i64] fun (e:Int)=>
 Zj c d [.int .i64] fun (f:Int)=>
 Zy ((4:Int)≠0)<|
 Zj c d [.int .i64] fun (g:Int)=>
 Zy ((48:Int)≠0)<|
 (g77 e (P1 .quo .i64 f 4) (P1 .quo .i64 g 48)).bind fun a=>
 (g78 b a.1 a.2.1 a.2.2).bind fun h=>
 if (!h) then
 Zy (Z6 b (E0++[[I a.1,I a.2.1,I a.2.2]]) 24)<|
 Zli k c (b++(E0++[[I a.1,I a.2.1,I a.2.2]])) (P1 .add .i64 d 1)
 else
 Zli k c b (P1 .add .i64 d 1)
 else
 Xa (b)
 else
 Xa (b)):=by kernel_rfl
def ZBl (a:LL):g26 a =
 (Zli Zr a E0 0):=by kernel_rfl
noncomputable def F27:Fn:=⟨20,[2],[(3,[(0,.c (.int .i64)),(3,.c (.own Xc 3)),(4,.c (.int .i64))])],[],0,[],[],Tryz.f27,[.c (.int .i64)],[.c (.own Xc 3)],[(13,F13.S)]⟩
def ZKz:F27.S.Ok Tryz.prog 27:=F27.ok Tryz.func27 ⟨Zrl,trivial⟩
noncomputable def g27 (a:Int):Option (LL):=F27.S.g [.i a]
noncomputable def Zn1 (k:Nat) (a:Int) (b:LL) (c:Int):Option (LL):=F27.lp [0] 0 r0 k [.i a,.l b,.i c]
def Zte (k:Nat) (c:Int) (b:LL) (a:Int):Zn1 (k+1) c b a =
 (if P0 .lss a 4 then
 Zy ((0:Int)≤(Xi .u64 a))<|
 (g13 (P1 .shr .i64 c (Xi .u64 a)) 2).bind fun d=>
 if P0 .eql d 1 then
 Zy (Z6 b (E0++[[I a]]) 8)<|
 Zn1 k c (b++(E0++[[I a]])) (P1 .add .i64 a 1)
 else
 Zn1 k c b (P1 .add .i64 a 1)
 else
 Xa (b)):=by kernel_rfl
def ZBe (a:Int):g27 a =
 (Zn1 Zr a E0 0):=by kernel_rfl
noncomputable def F29:Fn:=⟨58,[2],[(3,[(0,.c (.slice 1)),(2,.box [.int .i64,.slice 1,.slice 1]),(3,.box [.int .i64,.slice 1,.slice 1]),(4,.c (.int .i64))]),(10,[(0,.c (.slice 1)),(2,.box [.int .i64,.slice 1,.slice 1]),(3,.box [.int .i64,.slice 1,.slice 1]),(7,.c (.int .i64))])],[],0,[],[],Tryz.f29,[.c (.slice 1)],[.agg [.int .i64,.slice 1,.slice 1]],[(21,F21.S),(13,F13.S),(79,F79.S)]⟩
def ZIP:F29.S.Ok Tryz.prog 29:=F29.ok Tryz.func29 ⟨ZAp,⟨Zrl,⟨ZIE,trivial⟩⟩⟩
noncomputable def g29 (a:LL):Option (Int×LL×LL):=F29.S.g [.l a]
noncomputable def Zof (k:Nat) (a:LL) (b:Int) (c d:LL) (e:Int) (f g:LL) (h:Int):Option (Int×LL×LL):=F29.lp [5,1,0] 0 r0 k [.l a,.i b,.l c,.l d,.i e,.l f,.l g,.i h]
def ZsQ (k:Nat) (b:LL) (f:Int) (g h:LL) (d:Int) (e a:LL) (c:Int):Zof (k+1) b f g h d e a c =
 ((g21 b 6).bind fun j=>
 (g13 j 3).bind fun l=>
 if P0 .lss c l then
 Zy (Z6 E0 a 8)<|
 (g21 b (P1 .add .i64 7 c)).bind fun m=>
 (g13 m 4).bind fun i=>
 Zy (Z6 a (E0++[[I i]]) 8)<|
 Zof k b f g h d e (a++(E0++[[I i]])) (P1 .add .i64 c 1)
 else
 Xa (d,e,a)):=by kernel_rfl
noncomputable def Zn3 (k:Nat) (a:LL) (b:Int) (c d:LL) (e:Int) (f g:LL) (h:Int):Option (Int×LL×LL):=F29.lp [3] 0 r0 k [.l a,.i b,.l c,.l d,.i e,.l f,.l g,.i h]
def ZrR (k:Nat) (b:LL) (d:Int) (e f:LL) (g:Int) (a h:LL) (c:Int):Zn3 (k+1) b d e f g a h c =
 ((g21 b 1).bind fun j=>
 (g13 j 4).bind fun l=>
 if P0 .lss c l then
 (g21 b (P1 .add .i64 2 c)).bind fun m=>
 (g13 m 4).bind fun i=>
 (g79 a i).bind fun n=>
 if (!n) then
 Zy (Z6 E0 a 8)<|
 Zy (Z6 a (E0++[[I i]]) 8)<|
 Zn3 k b d e f g (a++(E0++[[I i]])) h (P1 .add .i64 c 1)
 else
 Zn3 k b d e f g a h (P1 .add .i64 c 1)
 else
 Zof Zr b d e f g a h 0):=by kernel_rfl
def ZCw (a:LL):g29 a =
 ((g21 a 0).bind fun b=>
 (g13 b 200).bind fun c=>
 Zn3 Zr a 0 E0 E0 c E0 E0 0):=by kernel_rfl
noncomputable def F80:Fn:=⟨44,[4],[(3,[(0,.c (.slice 13)),(1,.c (.int .i64)),(5,.c (.own Xb 135)),(6,.c (.int .i64))])],[],0,[4],[],Tryz.f80,[.c (.slice 13),.c (.int .i64)],[.c (.own Xb 135)],[(25,F25.S)]⟩
def ZJX:F80.S.Ok Tryz.prog 80:=F80.ok Tryz.func80 ⟨ZzN,trivial⟩
noncomputable def g80 (a:LL) (b:Int):Option (LL):=F80.S.g [.l a,.i b]
noncomputable def ZgD (k:Nat) (a:LL) (b:Int) (c:LL) (d:Int):Option (LL):=F80.lp [4] 0 r0 k [.l a,.i b,.l c,.i d]
def Zm8 (k:Nat) (c:LL) (f:Int) (e:LL) (d:Int):ZgD (k+1) c f e d =
 (if P0 .lss d (Xh c:Int) then
 Zj c d hs12 fun (h:Qt25)=>
 if P0 .eql h.1 f then
 Zj c d hs12 fun (i:Qt25)=>
 if P0 .lss i.2.1 12 then
 Zj c d hs12 fun (g:Qt25)=>
 Zj c d hs12 fun (a:Qt25)=>
 (g25 a.2.2.1 a.2.2.2.1 (d4 a).1 (d4 a).2.1 (d6 a).1 (d6 a).2.1 (d8 a).1 (d8 a).2.1 (df a).1 (df a).2.1 (dg a)).bind fun b=>
 Zy ((0:Int)≤g.2.1)<|
 Zy ((g.2.1:Int) < (Xh e:Int))<|
 Zy ((0:Int)≤g.2.1)<|
 Zy ((g.2.1:Int) < (Xh e:Int))<|
 ZgD k c f (Jk e (XJ g.2.1) 0 [I b.1,I b.2.1,I b.2.2.1,AV.slice Xc 3 b.2.2.2.1,I (d4 b).1,I (d4 b).2.1,I (d6 b).1,I (d6 b).2.1,I (d8 b).1,I (d8 b).2.1,B b.2.2.2.2.2.2.2.2.2.2]) (P1 .add .i64 d 1)
 else
 ZgD k c f e (P1 .add .i64 d 1)
 else
 ZgD k c f e (P1 .add .i64 d 1)
 else
 Xa (e)):=by kernel_rfl
def ZB5 (a:LL) (b:Int):g80 a b =
 (Zy (ZuV 12 136)<|
 Zy ((12:Int)≤12)<|
 Zy ((12:Int)≤12)<|
 ZgD Zr a b (List.replicate (XJ 12) [I 0,I 0,I 0,AV.slice Xc 3 E0,I 0,I 0,I 0,I 0,I 0,I 0,B Xc,I 0,I 0,I 0,I 0]) 0):=by kernel_rfl
noncomputable def F30:Fn:=⟨203,[6],[(3,[(0,.c (.slice 1)),(1,.c (.slice 13)),(6,.box hs30),(7,.box hs29),(8,.c (.int .i64))]),(10,[(0,.c (.slice 1)),(1,.c (.slice 13)),(6,.box hs30),(7,.box hs29),(9,.c (.int .i64))]),(17,[(0,.c (.slice 1)),(1,.c (.slice 13)),(6,.box hs30),(7,.box hs29),(12,.c (.int .i64))]),(22,[(0,.c (.slice 1)),(1,.c (.slice 13)),(6,.box hs30),(7,.box hs29),(14,.c (.int .i64))]),(27,[(0,.c (.slice 1)),(1,.c (.slice 13)),(6,.box hs30),(7,.box hs29),(16,.c (.int .i64))])],[],0,[],[(33,[(7,1)])],Tryz.f30,[.c (.slice 1),.c (.slice 13),.c (.int .i64)],[.agg hs30],[(80,F80.S),(21,F21.S),(13,F13.S),(81,F81.S),(22,F22.S),(24,F24.S),(23,F23.S),(82,F82.S)]⟩
def ZI9:F30.S.Ok Tryz.prog 30:=F30.ok Tryz.func30 ⟨ZJX,⟨ZAp,⟨Zrl,⟨ZGL,⟨ZEB,⟨ZId,⟨ZIK,⟨ZEA,trivial⟩⟩⟩⟩⟩⟩⟩⟩
noncomputable def g30 (a b:LL) (c:Int):Option (Qt38):=F30.S.g [.l a,.l b,.i c]
noncomputable def Zoa (k:Nat) (a b c d e f g h j m n o p q:LL) (r:Int):Option (Qt38):=F30.lp [2,1,4,1,3,1,3,1,0] 0 r0 k [.l a,.l b,.l c,.l d,.l e,.l f,.l g,.l h,.l j,.l m,.l n,.l o,.l p,.l q,.i r]
def Zr4 (k:Nat) (f g m n o p q r h i j l b c:LL) (d:Int):Zoa (k+1) f g m n o p q r h i j l b c d =
 ((g21 f 18).bind fun s=>
 (g13 s 3).bind fun t=>
 if P0 .lss d t then
 if P0 .lss d (Xh g:Int) then
 Zy (Z6 E0 b 120)<|
 Zj g d hs12 fun (a:Qt25)=>
 Zy (Z6 b (E0++[[I a.1,I a.2.1,I a.2.2.1,I a.2.2.2.1,I (d4 a).1,AV.slice Xc 3 (d4 a).2.1,I (d6 a).1,I (d6 a).2.1,I (d8 a).1,I (d8 a).2.1,I (df a).1,I (df a).2.1,B (dg a)]]) 120)<|
 Zy (Z6 E0 c 24)<|
 (g21 f (P1 .add .i64 19 d)).bind fun u=>
 (g22 u).bind fun e=>
 Zy (Z6 c (E0++[[I e.1,I e.2.1,I e.2.2]]) 24)<|
 Zoa k f g m n o p q r h i j l (b++(E0++[[I a.1,I a.2.1,I a.2.2.1,I a.2.2.2.1,I (d4 a).1,AV.slice Xc 3 (d4 a).2.1,I (d6 a).1,I (d6 a).2.1,I (d8 a).1,I (d8 a).2.1,I (df a).1,I (df a).2.1,B (dg a)]])) (c++(E0++[[I e.1,I e.2.1,I e.2.2]])) (P1 .add .i64 d 1)
 else
 Xa (h,i,j,l,b,c)
 else
 Xa (h,i,j,l,b,c)):=by kernel_rfl
noncomputable def ZnT (k:Nat) (a b c d e f g h j m n o p q:LL) (r:Int):Option (Qt38):=F30.lp [2,1,4,1,3,1,0] 0 r0 k [.l a,.l b,.l c,.l d,.l e,.l f,.l g,.l h,.l j,.l m,.l n,.l o,.l p,.l q,.i r]
def ZrQ (k:Nat) (b d e f g h i j l m n c o p:LL) (a:Int):ZnT (k+1) b d e f g h i j l m n c o p a =
 ((g21 b 16).bind fun r=>
 (g13 r 3).bind fun s=>
 if P0 .lss a s then
 Zy (Z6 E0 c 16)<|
 (g21 b (P1 .add .i64 17 a)).bind fun t=>
 (g13 t 20).bind fun q=>
 Zy (Z6 c (E0++[[I (P1 .add .i64 a 1),I q]]) 16)<|
 ZnT k b d e f g h i j l m n (c++(E0++[[I (P1 .add .i64 a 1),I q]])) o p (P1 .add .i64 a 1)
 else
 Zoa Zr b d e f g h i j l m n c o p 0):=by kernel_rfl
noncomputable def ZkN (k:Nat) (a b c d e f g h j m n o p q:LL) (r:Int):Option (Qt38):=F30.lp [2,1,4,1,0] 0 r0 k [.l a,.l b,.l c,.l d,.l e,.l f,.l g,.l h,.l j,.l m,.l n,.l o,.l p,.l q,.i r]
def Zsd (k:Nat) (c e f g h i j l m n d o p q:LL) (a:Int):ZkN (k+1) c e f g h i j l m n d o p q a =
 ((g21 c 14).bind fun r=>
 (g13 r 3).bind fun s=>
 if P0 .lss a s then
 Zy (Z6 E0 d 32)<|
 (g21 c (P1 .add .i64 15 a)).bind fun t=>
 (g22 t).bind fun b=>
 Zy (Z6 d (E0++[[I a,I b.1,I b.2.1,I b.2.2]]) 32)<|
 ZkN k c e f g h i j l m n (d++(E0++[[I a,I b.1,I b.2.1,I b.2.2]])) o p q (P1 .add .i64 a 1)
 else
 ZnT Zr c e f g h i j l m n d o p q 0):=by kernel_rfl
noncomputable def ZgT (k:Nat) (a b c d e f g h j m n o p q:LL) (r:Int):Option (Qt38):=F30.lp [2,1,0] 0 r0 k [.l a,.l b,.l c,.l d,.l e,.l f,.l g,.l h,.l j,.l m,.l n,.l o,.l p,.l q,.i r]
def ZsS (k:Nat) (d e g h i j l m n b o p q r:LL) (f:Int):ZgT (k+1) d e g h i j l m n b o p q r f =
 ((g21 d 12).bind fun t=>
 (g13 t 3).bind fun u=>
 if P0 .lss f u then
 if P0 .gtr (Xh e:Int) 0 then
 (g24 d (P1 .add .i64 13 f)).bind fun v=>
 (g21 d f).bind fun w=>
 (g13 w (Xh e:Int)).bind fun x=>
 Zj e x hs12 fun (c:Qt25)=>
 (g23 v c.2.2.1 c.2.2.2.1 (d4 c).1 (d4 c).2.1 (d6 c).1 (d6 c).2.1 (d8 c).1 (d8 c).2.1 (df c).1 (df c).2.1 (dg c)).bind fun a=>
 if P0 .eql (Xh b:Int) 0 then
 Zy (Z6 E0 b 240)<|
 Zy (Z6 b (E0++[[I a.1,I a.2.1,I a.2.2.1,I a.2.2.2.1,I (d4 a).1,I (d4 a).2.1,I (d6 a).1,I (d6 a).2.1,I (d8 a).1,I (d8 a).2.1,I (df a).1,I (df a).2.1,I (dg a).1,I (dg a).2.1,I (dh a).1,I (dh a).2.1,I (P2 a).1,I (P2 a).2.1,I (d2 (P2 a)).1,I (d2 (P2 a)).2.1,AV.slice Xc 3 (d4 (P2 a)).1,I (d4 (P2 a)).2.1,I (d6 (P2 a)).1,I (d6 (P2 a)).2.1,I (d8 (P2 a)).1,I (d8 (P2 a)).2.1,I (df (P2 a)).1,B (df (P2 a)).2]]) 240)<|
 ZgT k d e g h i j l m n (b++(E0++[[I a.1,I a.2.1,I a.2.2.1,I a.2.2.2.1,I (d4 a).1,I (d4 a).2.1,I (d6 a).1,I (d6 a).2.1,I (d8 a).1,I (d8 a).2.1,I (df a).1,I (df a).2.1,I (dg a).1,I (dg a).2.1,I (dh a).1,I (dh a).2.1,I (P2 a).1,I (P2 a).2.1,I (d2 (P2 a)).1,I (d2 (P2 a)).2.1,AV.slice Xc 3 (d4 (P2 a)).1,I (d4 (P2 a)).2.1,I (d6 (P2 a)).1,I (d6 (P2 a)).2.1,I (d8 (P2 a)).1,I (d8 (P2 a)).2.1,I (df (P2 a)).1,B (df (P2 a)).2]])) o p q r (P1 .add .i64 f 1)
 else
 Zj b (P1 .sub .i64 (Xh b:Int) 1) hs6 fun (s:Qt10)=>
 (g82 s.1 s.2.1 s.2.2.1 a.1 a.2.1 a.2.2.1).bind fun y=>
 if y then
 Zy (Z6 E0 b 240)<|
 Zy (Z6 b (E0++[[I a.1,I a.2.1,I a.2.2.1,I a.2.2.2.1,I (d4 a).1,I (d4 a).2.1,I (d6 a).1,I (d6 a).2.1,I (d8 a).1,I (d8 a).2.1,I (df a).1,I (df a).2.1,I (dg a).1,I (dg a).2.1,I (dh a).1,I (dh a).2.1,I (P2 a).1,I (P2 a).2.1,I (d2 (P2 a)).1,I (d2 (P2 a)).2.1,AV.slice Xc 3 (d4 (P2 a)).1,I (d4 (P2 a)).2.1,I (d6 (P2 a)).1,I (d6 (P2 a)).2.1,I (d8 (P2 a)).1,I (d8 (P2 a)).2.1,I (df (P2 a)).1,B (df (P2 a)).2]]) 240)<|
 ZgT k d e g h i j l m n (b++(E0++[[I a.1,I a.2.1,I a.2.2.1,I a.2.2.2.1,I (d4 a).1,I (d4 a).2.1,I (d6 a).1,I (d6 a).2.1,I (d8 a).1,I (d8 a).2.1,I (df a).1,I (df a).2.1,I (dg a).1,I (dg a).2.1,I (dh a).1,I (dh a).2.1,I (P2 a).1,I (P2 a).2.1,I (d2 (P2 a)).1,I (d2 (P2 a)).2.1,AV.slice Xc 3 (d4 (P2 a)).1,I (d4 (P2 a)).2.1,I (d6 (P2 a)).1,I (d6 (P2 a)).2.1,I (d8 (P2 a)).1,I (d8 (P2 a)).2.1,I (df (P2 a)).1,B (df (P2 a)).2]])) o p q r (P1 .add .i64 f 1)
 else
 ZgT k d e g h i j l m n b o p q r (P1 .add .i64 f 1)
 else
 ZkN Zr d e g h i j l m n b o p q r 0
 else
 ZkN Zr d e g h i j l m n b o p q r 0):=by kernel_rfl
noncomputable def Zcv (k:Nat) (a b c d e f g h j m n o p q:LL) (r:Int):Option (Qt38):=F30.lp [2] 0 r0 k [.l a,.l b,.l c,.l d,.l e,.l f,.l g,.l h,.l j,.l m,.l n,.l o,.l p,.l q,.i r]
def Zsx (k:Nat) (d f g h i j l m b n o p q r:LL) (a:Int):Zcv (k+1) d f g h i j l m b n o p q r a =
 (if P0 .lss a (Xh b:Int) then
 (g21 d a).bind fun t=>
 (g13 t 5).bind fun u=>
 if P0 .eql u 4 then
 Zy ((0:Int)≤a)<|
 Zy ((a:Int) < (Xh b:Int))<|
 Zj b a hs11 fun (c:Qt21)=>
 (g81 c.1 c.2.1 c.2.2.1 c.2.2.2.1 (d4 c).1 (d4 c).2.1 (d6 c).1 (d6 c).2.1 (d8 c).1 (d8 c).2.1 (df c).1 (df c).2.1 (dg c).1 (dg c).2.1 (dh c)).bind fun v=>
 if (!v) then
 (g21 d a).bind fun s=>
 Zy ((5:Int)≠0)<|
 (g22 (P1 .quo .i64 s 5)).bind fun e=>
 Zy ((0:Int)≤a)<|
 Zy ((a:Int) < (Xh b:Int))<|
 Zy ((0:Int)≤a)<|
 Zy ((a:Int) < (Xh b:Int))<|
 (g21 d a).bind fun w=>
 (g13 w 7).bind fun x=>
 if P0 .eql x 6 then
 (g21 d a).bind fun y=>
 Zy ((7:Int)≠0)<|
 (g13 (P1 .quo .i64 y 7) 20).bind fun z=>
 Zy ((0:Int)≤a)<|
 Zy ((a:Int) < (Xh (Jk b (XJ a) 12 [I e.1,I e.2.1,I e.2.2]):Int))<|
 Zy ((0:Int)≤a)<|
 Zy ((a:Int) < (Xh (Jk b (XJ a) 12 [I e.1,I e.2.1,I e.2.2]):Int))<|
 Zcv k d f g h i j l m (Jk (Jk b (XJ a) 12 [I e.1,I e.2.1,I e.2.2]) (XJ a) 11 [I (P1 .add .i64 1 z)]) n o p q r (P1 .add .i64 a 1)
 else
 Zcv k d f g h i j l m (Jk b (XJ a) 12 [I e.1,I e.2.1,I e.2.2]) n o p q r (P1 .add .i64 a 1)
 else
 (g21 d a).bind fun s=>
 (g13 s 7).bind fun e=>
 if P0 .eql e 6 then
 (g21 d a).bind fun A=>
 Zy ((7:Int)≠0)<|
 (g13 (P1 .quo .i64 A 7) 20).bind fun C=>
 Zy ((0:Int)≤a)<|
 Zy ((a:Int) < (Xh b:Int))<|
 Zy ((0:Int)≤a)<|
 Zy ((a:Int) < (Xh b:Int))<|
 Zcv k d f g h i j l m (Jk b (XJ a) 11 [I (P1 .add .i64 1 C)]) n o p q r (P1 .add .i64 a 1)
 else
 Zcv k d f g h i j l m b n o p q r (P1 .add .i64 a 1)
 else
 (g21 d a).bind fun c=>
 (g13 c 7).bind fun D=>
 if P0 .eql D 6 then
 (g21 d a).bind fun E=>
 Zy ((7:Int)≠0)<|
 (g13 (P1 .quo .i64 E 7) 20).bind fun G=>
 Zy ((0:Int)≤a)<|
 Zy ((a:Int) < (Xh b:Int))<|
 Zy ((0:Int)≤a)<|
 Zy ((a:Int) < (Xh b:Int))<|
 Zcv k d f g h i j l m (Jk b (XJ a) 11 [I (P1 .add .i64 1 G)]) n o p q r (P1 .add .i64 a 1)
 else
 Zcv k d f g h i j l m b n o p q r (P1 .add .i64 a 1)
 else
 ZgT Zr d f g h i j l m b n o p q r 0):=by kernel_rfl
def ZBP (b a:LL) (c:Int):g30 b a c =
 ((g80 a c).bind fun d=>
 Zcv Zr b a E0 E0 E0 E0 E0 E0 d E0 E0 E0 E0 E0 0):=by kernel_rfl
noncomputable def F28:Fn:=⟨37,[4],[],[],0,[],[],Tryz.f28,[.c (.slice 1),.c (.slice 13)],[.agg hs7],[(21,F21.S),(13,F13.S),(24,F24.S),(29,F29.S),(30,F30.S)]⟩
def ZKA:F28.S.Ok Tryz.prog 28:=F28.ok Tryz.func28 ⟨ZAp,⟨Zrl,⟨ZId,⟨ZIP,⟨ZI9,trivial⟩⟩⟩⟩⟩
noncomputable def g28 (a b:LL):Option (Qt19):=F28.S.g [.l a,.l b]
def ZCZ (b f:LL):g28 b f =
 ((g21 b 0).bind fun h=>
 (g13 h 4).bind fun e=>
 (g24 b 1).bind fun i=>
 (g29 i).bind fun c=>
 (g24 b 2).bind fun j=>
 (g30 j f e).bind fun a=>
 (g21 b 3).bind fun k=>
 (g13 k 2).bind fun l=>
 if P0 .eql l 1 then
 (g24 b 4).bind fun m=>
 (g29 m).bind fun g=>
 (g24 b 5).bind fun n=>
 (g30 n f e).bind fun d=>
 Xa (e,c.1,c.2.1,c.2.2,a.1,a.2.1,a.2.2.1,a.2.2.2.1,(d4 a).1,a.2.2.2.2.2,Xb,g.1,g.2.1,g.2.2,d.1,d.2.1,d.2.2.1,d.2.2.2.1,(d4 d).1,d.2.2.2.2.2)
 else
 Xa (e,c.1,c.2.1,c.2.2,a.1,a.2.1,a.2.2.1,a.2.2.2.1,(d4 a).1,a.2.2.2.2.2,Xc,0,E0,E0,E0,E0,E0,E0,E0,E0)):=by kernel_rfl
noncomputable def F10:Fn:=⟨199,[6],[(18,[(1,.c (.slice 1)),(2,.c (.slice 13)),(6,.box hs0),(7,.box hs0),(9,.c (.int .i64))]),(41,[(1,.c (.slice 1)),(6,.box hs0),(7,.box hs0),(11,.c (.int .i64))])],[],0,[],[],Tryz.f10,[.c (.int .i64),.c (.slice 1),.c (.slice 13)],[.agg hs0],[(13,F13.S),(21,F21.S),(22,F22.S),(24,F24.S),(23,F23.S),(25,F25.S),(26,F26.S),(27,F27.S),(28,F28.S),(29,F29.S),(30,F30.S)]⟩
def ZJ3:F10.S.Ok Tryz.prog 10:=F10.ok Tryz.func10 ⟨Zrl,⟨ZAp,⟨ZEB,⟨ZId,⟨ZIK,⟨ZzN,⟨ZKF,⟨ZKz,⟨ZKA,⟨ZIP,⟨ZI9,trivial⟩⟩⟩⟩⟩⟩⟩⟩⟩⟩⟩
noncomputable def g10 (a:Int) (b c:LL):Option (Qt5):=F10.S.g [.i a,.l b,.l c]
noncomputable def Zr1 (k:Nat) (a c:LL) (d e f g h j m n o p q:Int) (r:Bool) (s t u v w x y z A C D E G H J K L M N O:Int) (P:LL) (Q R T U V W:Int) (X:Bool) (Y Z S ab:LL) (ac ad:Int) (ae af ag ah ai aj ak al:LL) (am an:Int) (ao ap aq ar aZ au av aw:LL) (ax:Bool) (ay:Int) (az a0 a1 a2 a3 a4 a5 a6:LL) (a7 a8 a9 ba bb bc bd be bf bg bh:Int) (bi:Bool) (bj bk bl bm bn bo bp bq br bs bt bu bv bw bx bz b0 b1 b2 b3:Int) (b4:LL) (b5 b6 b7 b8 b9 ca:Int) (cb:Bool) (cc cd ce cf:LL) (cg ch:Int) (ci cj ck cl cm cn co cp:LL) (cq cr:Int) (cs ct cu cv cw cx cy cz:LL) (c0:Bool) (c1:Int) (c2 c3 c4 c5 c6 c7 c8 c9:LL) (da:Int):Option (Qt5):=F10.lp [10,4,3,2,1,0,5] 0 r0 k [.l a,.l c,.i d,.i e,.i f,.i g,.i h,.i j,.i m,.i n,.i o,.i p,.i q,.b r,.i s,.i t,.i u,.i v,.i w,.i x,.i y,.i z,.i A,.i C,.i D,.i E,.i G,.i H,.i J,.i K,.i L,.i M,.i N,.i O,.l P,.i Q,.i R,.i T,.i U,.i V,.i W,.b X,.l Y,.l Z,.l S,.l ab,.i ac,.i ad,.l ae,.l af,.l ag,.l ah,.l ai,.l aj,.l ak,.l al,.i am,.i an,.l ao,.l ap,.l aq,.l ar,.l aZ,.l au,.l av,.l aw,.b ax,.i ay,.l az,.l a0,.l a1,.l a2,.l a3,.l a4,.l a5,.l a6,.i a7,.i a8,.i a9,.i ba,.i bb,.i bc,.i bd,.i be,.i bf,.i bg,.i bh,.b bi,.i bj,.i bk,.i bl,.i bm,.i bn,.i bo,.i bp,.i bq,.i br,.i bs,.i bt,.i bu,.i bv,.i bw,.i bx,.i bz,.i b0,.i b1,.i b2,.i b3,.l b4,.i b5,.i b6,.i b7,.i b8,.i b9,.i ca,.b cb,.l cc,.l cd,.l ce,.l cf,.i cg,.i ch,.l ci,.l cj,.l ck,.l cl,.l cm,.l cn,.l co,.l cp,.i cq,.i cr,.l cs,.l ct,.l cu,.l cv,.l cw,.l cx,.l cy,.l cz,.b c0,.i c1,.l c2,.l c3,.l c4,.l c5,.l c6,.l c7,.l c8,.l c9,.i da]
def ZsY (k:Nat) (x0 e:LL) (x2 x3 x4 x5 x6 x7 x8 x9 bf bg bh:Int) (bi:Bool) (bj bk bl bm bn bo bp bq br bs bt bu bv bw bx bz b0 b1 b2 b3:Int) (b4:LL) (b5 b6 b7 b8 b9 ca:Int) (cb:Bool) (cc cd ce cf:LL) (cg ch:Int) (ci cj ck cl cm cn co cp:LL) (cq cr:Int) (cs ct cu cv cw cx cy cz:LL) (c0:Bool) (c1:Int) (c2 c3 c4 c5 c6 c7 c8 c9:LL) (f g h i j l m n o p q:Int) (r:Bool) (s t u v w x y z A C D E G H J K L M N O:Int) (P:LL) (Q R T U V W:Int) (X:Bool) (Y c Z S:LL) (ab ac:Int) (ad ae af ag ah ai aj ak:LL) (al am:Int) (an ao ap aq ar aZ au av:LL) (aw:Bool) (ax:Int) (ay az a0 a1 a2 a3 a4 a5:LL) (d:Int):Zr1 (k+1) x0 e x2 x3 x4 x5 x6 x7 x8 x9 bf bg bh bi bj bk bl bm bn bo bp bq br bs bt bu bv bw bx bz b0 b1 b2 b3 b4 b5 b6 b7 b8 b9 ca cb cc cd ce cf cg ch ci cj ck cl cm cn co cp cq cr cs ct cu cv cw cx cy cz c0 c1 c2 c3 c4 c5 c6 c7 c8 c9 f g h i j l m n o p q r s t u v w x y z A C D E G H J K L M N O P Q R T U V W X Y c Z S ab ac ad ae af ag ah ai aj ak al am an ao ap aq ar aZ au av aw ax ay az a0 a1 a2 a3 a4 a5 d =
 ((g21 x0 8).bind fun da=>
 (g13 da 3).bind fun db=>
 if P0 .lss d db then
 if P0 .lss d (Xh e:Int) then
 Zy (Z6 E0 c 104)<|
 Zj e d hs12 fun (b:Qt25)=>
 (g25 b.2.2.1 b.2.2.2.1 (d4 b).1 (d4 b).2.1 (d6 b).1 (d6 b).2.1 (d8 b).1 (d8 b).2.1 (df b).1 (df b).2.1 (dg b)).bind fun a=>
 Zy (Z6 c (E0++[[I a.1,I a.2.1,I a.2.2.1,AV.slice Xc 3 a.2.2.2.1,I (d4 a).1,I (d4 a).2.1,I (d6 a).1,I (d6 a).2.1,I (d8 a).1,I (d8 a).2.1,B a.2.2.2.2.2.2.2.2.2.2]]) 104)<|
 Zr1 k x0 e x2 x3 x4 x5 x6 x7 x8 x9 bf bg bh bi bj bk bl bm bn bo bp bq br bs bt bu bv bw bx bz b0 b1 b2 b3 b4 b5 b6 b7 b8 b9 ca cb cc cd ce cf cg ch ci cj ck cl cm cn co cp cq cr cs ct cu cv cw cx cy cz c0 c1 c2 c3 c4 c5 c6 c7 c8 c9 f g h i j l m n o p q r s t u v w x y z A C D E G H J K L M N O P Q R T U V W X Y (c++(E0++[[I a.1,I a.2.1,I a.2.2.1,AV.slice Xc 3 a.2.2.2.1,I (d4 a).1,I (d4 a).2.1,I (d6 a).1,I (d6 a).2.1,I (d8 a).1,I (d8 a).2.1,B a.2.2.2.2.2.2.2.2.2.2]])) Z S ab ac ad ae af ag ah ai aj ak al am an ao ap aq ar aZ au av aw ax ay az a0 a1 a2 a3 a4 a5 (P1 .add .i64 d 1)
 else
 Xa (f,g,h,i,j,l,m,n,o,p,q,r,s,t,u,v,w,x,y,z,A,C,D,E,G,H,J,K,L,M,N,O,P,Q,R,T,U,V,W,X,Y,c,Z,S,ab,ac,ad,ae,af,ag,ah,ai,aj,ak,al,am,an,ao,ap,aq,ar,aZ,au,av,aw,ax,ay,az,a0,a1,a2,a3,a4,a5)
 else
 Xa (f,g,h,i,j,l,m,n,o,p,q,r,s,t,u,v,w,x,y,z,A,C,D,E,G,H,J,K,L,M,N,O,P,Q,R,T,U,V,W,X,Y,c,Z,S,ab,ac,ad,ae,af,ag,ah,ai,aj,ak,al,am,an,ao,ap,aq,ar,aZ,au,av,aw,ax,ay,az,a0,a1,a2,a3,a4,a5)):=by kernel_rfl
noncomputable def ZrZ (k:Nat) (a:LL) (c d e f g h j m n o p:Int) (q:Bool) (r s t u v w x y z A C D E G H J K L M N:Int) (O:LL) (P Q R T U V:Int) (W:Bool) (X Y Z S:LL) (ab ac:Int) (ad ae af ag ah ai aj ak:LL) (al am:Int) (an ao ap aq ar aZ au av:LL) (aw:Bool) (ax:Int) (ay az a0 a1 a2 a3 a4 a5:LL) (a6 a7 a8 a9 ba bb bc bd be bf bg:Int) (bh:Bool) (bi bj bk bl bm bn bo bp bq br bs bt bu bv bw bx bz b0 b1 b2:Int) (b3:LL) (b4 b5 b6 b7 b8 b9:Int) (ca:Bool) (cb cc cd ce:LL) (cf cg:Int) (ch ci cj ck cl cm cn co:LL) (cp cq:Int) (cr cs ct cu cv cw cx cy:LL) (cz:Bool) (c0:Int) (c1 c2 c3 c4 c5 c6 c7 c8:LL) (c9:Int):Option (Qt5):=F10.lp [10,4,3,2,1,1,1,1,1,1,1,1,0,3] 0 r0 k [.l a,.i c,.i d,.i e,.i f,.i g,.i h,.i j,.i m,.i n,.i o,.i p,.b q,.i r,.i s,.i t,.i u,.i v,.i w,.i x,.i y,.i z,.i A,.i C,.i D,.i E,.i G,.i H,.i J,.i K,.i L,.i M,.i N,.l O,.i P,.i Q,.i R,.i T,.i U,.i V,.b W,.l X,.l Y,.l Z,.l S,.i ab,.i ac,.l ad,.l ae,.l af,.l ag,.l ah,.l ai,.l aj,.l ak,.i al,.i am,.l an,.l ao,.l ap,.l aq,.l ar,.l aZ,.l au,.l av,.b aw,.i ax,.l ay,.l az,.l a0,.l a1,.l a2,.l a3,.l a4,.l a5,.i a6,.i a7,.i a8,.i a9,.i ba,.i bb,.i bc,.i bd,.i be,.i bf,.i bg,.b bh,.i bi,.i bj,.i bk,.i bl,.i bm,.i bn,.i bo,.i bp,.i bq,.i br,.i bs,.i bt,.i bu,.i bv,.i bw,.i bx,.i bz,.i b0,.i b1,.i b2,.l b3,.i b4,.i b5,.i b6,.i b7,.i b8,.i b9,.b ca,.l cb,.l cc,.l cd,.l ce,.i cf,.i cg,.l ch,.l ci,.l cj,.l ck,.l cl,.l cm,.l cn,.l co,.i cp,.i cq,.l cr,.l cs,.l ct,.l cu,.l cv,.l cw,.l cx,.l cy,.b cz,.i c0,.l c1,.l c2,.l c3,.l c4,.l c5,.l c6,.l c7,.l c8,.i c9]
def Ztd (k:Nat) (a:LL) (x1 x2 x3 x4 x5 x6 x7 x8 x9 bd be:Int) (bf:Bool) (bg bh bi bj bk bl bm bn bo bp bq br bs bt bu bv bw bx bz b0:Int) (b1:LL) (b2 b3 b4 b5 b6 b7:Int) (b8:Bool) (b9 ca cb cc:LL) (cd ce:Int) (cf cg ch ci cj ck cl cm:LL) (cn co:Int) (cp cq cr cs ct cu cv cw:LL) (cx:Bool) (cy:Int) (cz c0 c1 c2 c3 c4 c5 c6:LL) (d e f g h i j l m n o:Int) (p:Bool) (q r s t u v w x y z A C D E G H J K L M:Int) (N:LL) (O P Q R T U:Int) (V:Bool) (W X Y b:LL) (Z S:Int) (ab ac ad ae af ag ah ai:LL) (aj ak:Int) (al am an ao ap aq ar aZ:LL) (au:Bool) (av:Int) (aw ax ay az a0 a1 a2 a3:LL) (c:Int):ZrZ (k+1) a x1 x2 x3 x4 x5 x6 x7 x8 x9 bd be bf bg bh bi bj bk bl bm bn bo bp bq br bs bt bu bv bw bx bz b0 b1 b2 b3 b4 b5 b6 b7 b8 b9 ca cb cc cd ce cf cg ch ci cj ck cl cm cn co cp cq cr cs ct cu cv cw cx cy cz c0 c1 c2 c3 c4 c5 c6 d e f g h i j l m n o p q r s t u v w x y z A C D E G H J K L M N O P Q R T U V W X Y b Z S ab ac ad ae af ag ah ai aj ak al am an ao ap aq ar aZ au av aw ax ay az a0 a1 a2 a3 c =
 ((g21 a 7).bind fun c9=>
 (g13 c9 3).bind fun da=>
 if P0 .lss c da then
 Zy (Z6 E0 b 16)<|
 (g21 a (P1 .add .i64 8 c)).bind fun db=>
 (g13 db 3).bind fun c7=>
 (g21 a (P1 .add .i64 9 c)).bind fun dc=>
 (g13 dc 4).bind fun c8=>
 Zy (Z6 b (E0++[[I c7,I c8]]) 16)<|
 ZrZ k a x1 x2 x3 x4 x5 x6 x7 x8 x9 bd be bf bg bh bi bj bk bl bm bn bo bp bq br bs bt bu bv bw bx bz b0 b1 b2 b3 b4 b5 b6 b7 b8 b9 ca cb cc cd ce cf cg ch ci cj ck cl cm cn co cp cq cr cs ct cu cv cw cx cy cz c0 c1 c2 c3 c4 c5 c6 d e f g h i j l m n o p q r s t u v w x y z A C D E G H J K L M N O P Q R T U V W X Y (b++(E0++[[I c7,I c8]])) Z S ab ac ad ae af ag ah ai aj ak al am an ao ap aq ar aZ au av aw ax ay az a0 a1 a2 a3 (P1 .add .i64 c 1)
 else
 Xa (d,e,f,g,h,i,j,l,m,n,o,p,q,r,s,t,u,v,w,x,y,z,A,C,D,E,G,H,J,K,L,M,N,O,P,Q,R,T,U,V,W,X,Y,b,Z,S,ab,ac,ad,ae,af,ag,ah,ai,aj,ak,al,am,an,ao,ap,aq,ar,aZ,au,av,aw,ax,ay,az,a0,a1,a2,a3)):=by kernel_rfl
noncomputable def m10 (c f:LL) (k n o p q r s t u w x y:Int) (z:LL) (A C D E G H:Int) (v:Bool):Option (Qt5):=
 if P0 .eql k 1 then
 (g24 c 5).bind fun b=>
 (g23 b w x y z A C D E G H v).bind fun a=>
 Xa (k,n,o,p,q,r,0,s,t,u,0,Xc,a.1,a.2.1,a.2.2.1,a.2.2.2.1,(d4 a).1,(d4 a).2.1,(d6 a).1,(d6 a).2.1,(d8 a).1,(d8 a).2.1,(df a).1,(df a).2.1,(dg a).1,(dg a).2.1,(dh a).1,(dh a).2.1,(P2 a).1,(P2 a).2.1,(d2 (P2 a)).1,(d2 (P2 a)).2.1,(d4 (P2 a)).1,(d4 (P2 a)).2.1,(d6 (P2 a)).1,(d6 (P2 a)).2.1,(d8 (P2 a)).1,(d8 (P2 a)).2.1,(df (P2 a)).1,(df (P2 a)).2,E0,E0,E0,E0,0,0,E0,E0,E0,E0,E0,E0,E0,E0,0,0,E0,E0,E0,E0,E0,E0,E0,E0,Xc,0,E0,E0,E0,E0,E0,E0,E0,E0)
 else
 if P0 .eql k 2 then
 (g21 c 6).bind fun b=>
 (g13 b 20).bind fun a=>
 (g21 c 7).bind fun d=>
 (g13 d 2).bind fun g=>
 Zr1 Zr c f 0 0 0 0 0 0 0 0 0 0 0 Xc 0 0 0 0 0 0 0 0 0 0 0 0 0 0 0 0 0 0 0 0 E0 0 0 0 0 0 0 Xc E0 E0 E0 E0 0 0 E0 E0 E0 E0 E0 E0 E0 E0 0 0 E0 E0 E0 E0 E0 E0 E0 E0 Xc 0 E0 E0 E0 E0 E0 E0 E0 E0 k n o p q r 0 s t u a (P0 .eql g 1) 0 0 0 0 0 0 0 0 0 0 0 0 0 0 0 0 0 0 0 0 E0 0 0 0 0 0 0 Xc E0 E0 E0 E0 0 0 E0 E0 E0 E0 E0 E0 E0 E0 0 0 E0 E0 E0 E0 E0 E0 E0 E0 Xc 0 E0 E0 E0 E0 E0 E0 E0 E0 0
 else
 if P0 .eql k 4 then
 (g21 c 6).bind fun b=>
 (g13 b 12).bind fun a=>
 (g25 w x y z A C D E G H v).bind fun d=>
 Xa (k,n,o,p,q,r,a,s,t,u,0,Xc,0,0,0,0,0,0,0,0,0,0,0,0,0,0,0,0,0,0,0,0,E0,0,0,0,0,0,0,Xc,E0,(E0++[[I d.1,I d.2.1,I d.2.2.1,AV.slice Xc 3 d.2.2.2.1,I (d4 d).1,I (d4 d).2.1,I (d6 d).1,I (d6 d).2.1,I (d8 d).1,I (d8 d).2.1,B d.2.2.2.2.2.2.2.2.2.2]]),E0,E0,0,0,E0,E0,E0,E0,E0,E0,E0,E0,0,0,E0,E0,E0,E0,E0,E0,E0,E0,Xc,0,E0,E0,E0,E0,E0,E0,E0,E0)
 else
 if P0 .eql k 5 then
 (g21 c 6).bind fun b=>
 (g13 b 20).bind fun a=>
 Xa (k,n,o,p,q,r,0,s,t,u,a,Xc,0,0,0,0,0,0,0,0,0,0,0,0,0,0,0,0,0,0,0,0,E0,0,0,0,0,0,0,Xc,E0,E0,E0,E0,0,0,E0,E0,E0,E0,E0,E0,E0,E0,0,0,E0,E0,E0,E0,E0,E0,E0,E0,Xc,0,E0,E0,E0,E0,E0,E0,E0,E0)
 else
 if P0 .eql k 6 then
 (g24 c 6).bind fun b=>
 (g26 b).bind fun a=>
 Xa (k,n,o,p,q,r,0,s,t,u,0,Xc,0,0,0,0,0,0,0,0,0,0,0,0,0,0,0,0,0,0,0,0,E0,0,0,0,0,0,0,Xc,a,E0,E0,E0,0,0,E0,E0,E0,E0,E0,E0,E0,E0,0,0,E0,E0,E0,E0,E0,E0,E0,E0,Xc,0,E0,E0,E0,E0,E0,E0,E0,E0)
 else
 if P0 .eql k 12 then
 (g21 c 6).bind fun b=>
 (g27 b).bind fun a=>
 Xa (k,n,o,p,q,r,0,s,t,u,0,Xc,0,0,0,0,0,0,0,0,0,0,0,0,0,0,0,0,0,0,0,0,E0,0,0,0,0,0,0,Xc,E0,E0,a,E0,0,0,E0,E0,E0,E0,E0,E0,E0,E0,0,0,E0,E0,E0,E0,E0,E0,E0,E0,Xc,0,E0,E0,E0,E0,E0,E0,E0,E0)
 else
 if P0 .eql k 13 then
 (g24 c 6).bind fun b=>
 (g28 b f).bind fun a=>
 Xa (k,n,o,p,q,r,0,s,t,u,0,Xc,0,0,0,0,0,0,0,0,0,0,0,0,0,0,0,0,0,0,0,0,E0,0,0,0,0,0,0,Xc,E0,E0,E0,E0,0,0,E0,E0,E0,E0,E0,E0,E0,E0,a.1,a.2.1,a.2.2.1,a.2.2.2.1,(d4 a).1,(d4 a).2.1,(d6 a).1,(d6 a).2.1,(d8 a).1,(d8 a).2.1,(df a).1,(df a).2.1,(dg a).1,(dg a).2.1,(dh a).1,(dh a).2.1,(P2 a).1,(P2 a).2.1,(d2 (P2 a)).1,(d2 (P2 a)).2)
 else
 if P0 .eql k 14 then
 (g21 c 5).bind fun b=>
 (g13 b 70).bind fun a=>
 (g21 c 6).bind fun d=>
 (g27 d).bind fun g=>
 (g24 c 7).bind fun i=>
 (g29 i).bind fun h=>
 (g24 c 8).bind fun j=>
 (g21 c 9).bind fun l=>
 (g13 l 4).bind fun m=>
 (g30 j f m).bind fun e=>
 Xa (k,n,o,p,q,r,0,s,t,u,0,Xc,0,0,0,0,0,0,0,0,0,0,0,0,0,0,0,0,0,0,0,0,E0,0,0,0,0,0,0,Xc,E0,E0,g,E0,a,h.1,h.2.1,h.2.2,e.1,e.2.1,e.2.2.1,e.2.2.2.1,(d4 e).1,e.2.2.2.2.2,0,0,E0,E0,E0,E0,E0,E0,E0,E0,Xc,0,E0,E0,E0,E0,E0,E0,E0,E0)
 else
 if P0 .eql k 17 then
 (g21 c 6).bind fun b=>
 (g27 b).bind fun a=>
 ZrZ Zr c 0 0 0 0 0 0 0 0 0 0 0 Xc 0 0 0 0 0 0 0 0 0 0 0 0 0 0 0 0 0 0 0 0 E0 0 0 0 0 0 0 Xc E0 E0 E0 E0 0 0 E0 E0 E0 E0 E0 E0 E0 E0 0 0 E0 E0 E0 E0 E0 E0 E0 E0 Xc 0 E0 E0 E0 E0 E0 E0 E0 E0 k n o p q r 0 s t u 0 Xc 0 0 0 0 0 0 0 0 0 0 0 0 0 0 0 0 0 0 0 0 E0 0 0 0 0 0 0 Xc E0 E0 a E0 0 0 E0 E0 E0 E0 E0 E0 E0 E0 0 0 E0 E0 E0 E0 E0 E0 E0 E0 Xc 0 E0 E0 E0 E0 E0 E0 E0 E0 0
 else
 Xa (k,n,o,p,q,r,0,s,t,u,0,Xc,0,0,0,0,0,0,0,0,0,0,0,0,0,0,0,0,0,0,0,0,E0,0,0,0,0,0,0,Xc,E0,E0,E0,E0,0,0,E0,E0,E0,E0,E0,E0,E0,E0,0,0,E0,E0,E0,E0,E0,E0,E0,E0,Xc,0,E0,E0,E0,E0,E0,E0,E0,E0)
def ZCu (o:Int) (b d:LL):g10 o b d =
 ((g13 o 17).bind fun c=>
 (g21 b 0).bind fun p=>
 (g13 p 70).bind fun f=>
 (g21 b 1).bind fun q=>
 (g13 q 4).bind fun g=>
 (g21 b 2).bind fun r=>
 (g13 r 4).bind fun h=>
 (g21 b 3).bind fun s=>
 (g22 s).bind fun e=>
 if P0 .gtr (Xh d:Int) 0 then
 (g21 b 3).bind fun j=>
 (g13 j (Xh d:Int)).bind fun i=>
 Zj d i hs12 fun (a:Qt25)=>
 if P0 .leq (P1 .add .i64 1 c) 11 then
 (g21 b 4).bind fun l=>
 (g13 l 3).bind fun k=>
 if P0 .neq (P1 .add .i64 1 c) 1 then
 (g21 b 5).bind fun t=>
 (g22 t).bind fun m=>
 m10 b d (P1 .add .i64 1 c) f g h 0 k m.1 m.2.1 m.2.2 a.2.2.1 a.2.2.2.1 (d4 a).1 (d4 a).2.1 (d6 a).1 (d6 a).2.1 (d8 a).1 (d8 a).2.1 (df a).1 (df a).2.1 (dg a)
 else
 m10 b d (P1 .add .i64 1 c) f g h 0 k 0 0 0 a.2.2.1 a.2.2.2.1 (d4 a).1 (d4 a).2.1 (d6 a).1 (d6 a).2.1 (d8 a).1 (d8 a).2.1 (df a).1 (df a).2.1 (dg a)
 else
 if P0 .lss (P1 .add .i64 1 c) 17 then
 (g21 b 4).bind fun l=>
 (g13 l 5).bind fun k=>
 m10 b d (P1 .add .i64 1 c) f g h k 0 0 0 0 a.2.2.1 a.2.2.2.1 (d4 a).1 (d4 a).2.1 (d6 a).1 (d6 a).2.1 (d8 a).1 (d8 a).2.1 (df a).1 (df a).2.1 (dg a)
 else
 m10 b d (P1 .add .i64 1 c) f g h 0 0 0 0 0 a.2.2.1 a.2.2.2.1 (d4 a).1 (d4 a).2.1 (d6 a).1 (d6 a).2.1 (d8 a).1 (d8 a).2.1 (df a).1 (df a).2.1 (dg a)
 else
 if P0 .leq (P1 .add .i64 1 c) 11 then
 (g21 b 4).bind fun j=>
 (g13 j 3).bind fun i=>
 if P0 .neq (P1 .add .i64 1 c) 1 then
 (g21 b 5).bind fun a=>
 (g22 a).bind fun n=>
 m10 b d (P1 .add .i64 1 c) f g h 0 i n.1 n.2.1 n.2.2 e.1 e.2.1 e.2.2 E0 2 4096 12 3 0 0 Xc
 else
 m10 b d (P1 .add .i64 1 c) f g h 0 i 0 0 0 e.1 e.2.1 e.2.2 E0 2 4096 12 3 0 0 Xc
 else
 if P0 .lss (P1 .add .i64 1 c) 17 then
 (g21 b 4).bind fun j=>
 (g13 j 5).bind fun i=>
 m10 b d (P1 .add .i64 1 c) f g h i 0 0 0 0 e.1 e.2.1 e.2.2 E0 2 4096 12 3 0 0 Xc
 else
 m10 b d (P1 .add .i64 1 c) f g h 0 0 0 0 0 e.1 e.2.1 e.2.2 E0 2 4096 12 3 0 0 Xc):=by kernel_rfl
end Go.Proofs.YtjldbnbdcmfbmaaGreat
