import Derived.Test.YtjldbnbdcmfbmaaGreatF8c
open Option renaming some→Xa
open Bool renaming true→Xb,false→Xc
open List renaming length→Xh,drop→Uw
open Go.IntKind renaming wrap→Xi
open Int renaming toNat→XJ
set_option linter.unusedVariables false
set_option linter.unusedSimpArgs false
set_option linter.defProp false
namespace Go.Proofs.YtjldbnbdcmfbmaaGreat
open Go Go.AM
set_option maxRecDepth 100000
noncomputable def Zvi:Fn:=⟨59,[4,5,6],[(4,[(0,.c (.slice 1)),(1,.c (.int .i64)),(4,.c (.int .u64)),(7,.c (.int .i64))])],[],0,[],[],Tryz.f131,[.c (.slice 1),.c (.int .i64)],[.c (.int .u64),.c (.int .i64),.c (.int .i64)],[]⟩
def ZuS:Zvi.S.Ok Tryz.prog 131:=Zvi.ok Tryz.func131
noncomputable def Zyu (a:LL) (b:Int):Option (Int×Int×Int):=Zvi.S.g [.l a,.i b]
noncomputable def Za5 (k:Nat) (a:LL) (b c d:Int):Option (Int×Int×Int):=Zvi.lp [1,1,0] 0 r0 k [.l a,.i b,.i c,.i d]
def Zih (k:Nat) (e:LL) (c d a:Int):Za5 (k+1) e c d a =
 (if P0 .eql (P1 .add .i64 c a) (Xh e:Int) then
 Xa (0,0,52)
 else
 Zj e (P1 .add .i64 c a) [.int .u8] fun (b:Int)=>
 if P0 .eql a 9 then
 if P0 .gtr b 1 then
 Xa (0,0,6)
 else
 if P0 .gtr a 0 then
 if P0 .eql b 0 then
 Xa (0,0,54)
 else
 Zy ((0:Int)≤(P1 .mul .i64 7 a))<|
 if P0 .lss b 128 then
 Xa ((P1 .or .u64 d (P1 .shl .u64 (Xi .u64 (P1 .and .u8 b 127)) (P1 .mul .i64 7 a))),(P1 .add .i64 c (P1 .add .i64 a 1)),0)
 else
 Za5 k e c (P1 .or .u64 d (P1 .shl .u64 (Xi .u64 (P1 .and .u8 b 127)) (P1 .mul .i64 7 a))) (P1 .add .i64 a 1)
 else
 Zy ((0:Int)≤(P1 .mul .i64 7 a))<|
 if P0 .lss b 128 then
 Xa ((P1 .or .u64 d (P1 .shl .u64 (Xi .u64 (P1 .and .u8 b 127)) (P1 .mul .i64 7 a))),(P1 .add .i64 c (P1 .add .i64 a 1)),0)
 else
 Za5 k e c (P1 .or .u64 d (P1 .shl .u64 (Xi .u64 (P1 .and .u8 b 127)) (P1 .mul .i64 7 a))) (P1 .add .i64 a 1)
 else
 if P0 .gtr a 0 then
 if P0 .eql b 0 then
 Xa (0,0,54)
 else
 Zy ((0:Int)≤(P1 .mul .i64 7 a))<|
 if P0 .lss b 128 then
 Xa ((P1 .or .u64 d (P1 .shl .u64 (Xi .u64 (P1 .and .u8 b 127)) (P1 .mul .i64 7 a))),(P1 .add .i64 c (P1 .add .i64 a 1)),0)
 else
 Za5 k e c (P1 .or .u64 d (P1 .shl .u64 (Xi .u64 (P1 .and .u8 b 127)) (P1 .mul .i64 7 a))) (P1 .add .i64 a 1)
 else
 Zy ((0:Int)≤(P1 .mul .i64 7 a))<|
 if P0 .lss b 128 then
 Xa ((P1 .or .u64 d (P1 .shl .u64 (Xi .u64 (P1 .and .u8 b 127)) (P1 .mul .i64 7 a))),(P1 .add .i64 c (P1 .add .i64 a 1)),0)
 else
 Za5 k e c (P1 .or .u64 d (P1 .shl .u64 (Xi .u64 (P1 .and .u8 b 127)) (P1 .mul .i64 7 a))) (P1 .add .i64 a 1)):=by kernel_rfl
def ZuR (b:LL) (a:Int):Zyu b a =
 (if P0 .lss a 0 then
 Xa (0,0,6)
 else
 if P0 .gtr a (Xh b:Int) then
 Xa (0,0,6)
 else
 Za5 Zr b a 0 0):=by kernel_rfl
noncomputable def F63:Fn:=⟨38,[2],[],[0],0,[],[],Tryz.f63,[.box [.slice 1,.int .i64,.bool]],[.c (.int .i64)],[(131,Zvi.S)]⟩
def ZoY:F63.S.Ok Tryz.prog 63:=F63.ok Tryz.func63 ⟨ZuS,trivial⟩
noncomputable def g63 (a:LL) (c:Int) (d:Bool):Option (Int×LL×Int×Bool):=F63.S.g [.l a,.i c,.b d]
def ZCl (a:LL) (b:Int) (c:Bool):g63 a b c =
 (if c then
 Xa (0,a,b,c)
 else
 (Zyu a b).bind fun d=>
 if P0 .neq d.2.2 0 then
 Xa (0,a,b,Xb)
 else
 if P0 .gtr d.1 9223372036854775807 then
 Xa (0,a,b,Xb)
 else
 Xa ((Xi .i64 d.1),a,d.2.1,c)):=by kernel_rfl
noncomputable def ZuO:Fn:=⟨10,[2],[],[0],0,[],[],Tryz.f133,[.box [.slice 1,.int .i64,.bool]],[.agg [.int .i64,.int .i64,.int .i64]],[(63,F63.S)]⟩
def Zts:ZuO.S.Ok Tryz.prog 133:=ZuO.ok Tryz.func133 ⟨ZoY,trivial⟩
noncomputable def ZvV (a:LL) (c:Int) (d:Bool):Option (Qt36):=ZuO.S.g [.l a,.i c,.b d]
def Zxo (d:LL) (e:Int) (f:Bool):ZvV d e f =
 ((g63 d e f).bind fun a=>
 (g63 a.2.1 a.2.2.1 a.2.2.2).bind fun b=>
 (g63 b.2.1 b.2.2.1 b.2.2.2).bind fun c=>
 Xa (a.1,b.1,c.1,c.2.1,c.2.2.1,c.2.2.2)):=by kernel_rfl
noncomputable def ZDU:Fn:=⟨29,[4,5,6],[],[],0,[],[],Tryz.f232,[.c (.slice 1),.c (.int .i64)],[.c (.int .i64),.c (.int .i64),.c (.int .i64)],[(131,Zvi.S)]⟩
def ZHU:ZDU.S.Ok Tryz.prog 232:=ZDU.ok Tryz.func232 ⟨ZuS,trivial⟩
noncomputable def ZIp (a:LL) (b:Int):Option (Int×Int×Int):=ZDU.S.g [.l a,.i b]
def ZwR (b:LL) (c:Int):ZIp b c =
 ((Zyu b c).bind fun a=>
 if P0 .neq a.2.2 0 then
 Xa (0,0,a.2.2)
 else
 Zy ((0:Int)≤1)<|
 if P0 .eql (P1 .and .u64 a.1 1) 1 then
 Xa ((P1 .sub .i64 (P1 .sub .i64 0 (Xi .i64 (P1 .shr .u64 a.1 1))) 1),a.2.1,0)
 else
 Xa ((Xi .i64 (P1 .shr .u64 a.1 1)),a.2.1,0)):=by kernel_rfl
noncomputable def ZDR:Fn:=⟨33,[2],[],[0],0,[],[],Tryz.f220,[.box [.slice 1,.int .i64,.bool]],[.c (.int .i64)],[(232,ZDU.S)]⟩
def ZGw:ZDR.S.Ok Tryz.prog 220:=ZDR.ok Tryz.func220 ⟨ZHU,trivial⟩
noncomputable def ZmM (a:LL) (c:Int) (d:Bool):Option (Int×LL×Int×Bool):=ZDR.S.g [.l a,.i c,.b d]
def ZxH (a:LL) (b:Int) (c:Bool):ZmM a b c =
 (if c then
 Xa (0,a,b,c)
 else
 (ZIp a b).bind fun d=>
 if P0 .neq d.2.2 0 then
 Xa (0,a,b,Xb)
 else
 Xa (d.1,a,d.2.1,c)):=by kernel_rfl
noncomputable def ZD5:Fn:=⟨28,[2],[],[0],0,[],[],Tryz.f186,[.box [.slice 1,.int .i64,.bool]],[.agg hs13],[(220,ZDR.S)]⟩
def ZGv:ZD5.S.Ok Tryz.prog 186:=ZD5.ok Tryz.func186 ⟨ZGw,trivial⟩
noncomputable def ZGB (a:LL) (c:Int) (d:Bool):Option (Qt22):=ZD5.S.g [.l a,.i c,.b d]
def Zw5 (m:LL) (n:Int) (o:Bool):ZGB m n o =
 ((ZmM m n o).bind fun a=>
 (ZmM a.2.1 a.2.2.1 a.2.2.2).bind fun b=>
 (ZmM b.2.1 b.2.2.1 b.2.2.2).bind fun c=>
 (ZmM c.2.1 c.2.2.1 c.2.2.2).bind fun d=>
 (ZmM d.2.1 d.2.2.1 d.2.2.2).bind fun e=>
 (ZmM e.2.1 e.2.2.1 e.2.2.2).bind fun f=>
 (ZmM f.2.1 f.2.2.1 f.2.2.2).bind fun g=>
 (ZmM g.2.1 g.2.2.1 g.2.2.2).bind fun h=>
 (ZmM h.2.1 h.2.2.1 h.2.2.2).bind fun i=>
 (ZmM i.2.1 i.2.2.1 i.2.2.2).bind fun j=>
 (ZmM j.2.1 j.2.2.1 j.2.2.2).bind fun k=>
 (ZmM k.2.1 k.2.2.1 k.2.2.2).bind fun l=>
 Xa (a.1,b.1,c.1,d.1,e.1,f.1,g.1,h.1,i.1,j.1,k.1,l.1,l.2.1,l.2.2.1,l.2.2.2)):=by kernel_rfl
noncomputable def ZtE:Fn:=⟨22,[2],[],[0],0,[],[],Tryz.f188,[.box [.slice 1,.int .i64,.bool]],[.c (.int .i64)],[(63,F63.S)]⟩
def ZnL:ZtE.S.Ok Tryz.prog 188:=ZtE.ok Tryz.func188 ⟨ZoY,trivial⟩
noncomputable def ZoC (a:LL) (c:Int) (d:Bool):Option (Int×LL×Int×Bool):=ZtE.S.g [.l a,.i c,.b d]
def ZuA (b:LL) (c:Int) (d:Bool):ZoC b c d =
 ((g63 b c d).bind fun a=>
 if (P0 .gtr a.1 (P1 .sub .i64 (Xh a.2.1:Int) a.2.2.1)) then
 Xa (0,a.2.1,a.2.2.1,Xb)
 else
 Xa (a.1,a.2.1,a.2.2.1,a.2.2.2)):=by kernel_rfl
noncomputable def Zy6:Fn:=⟨42,[4],[],[0],0,[],[],Tryz.f234,[.box [.slice 1,.int .i64,.bool],.c (.int .i64)],[.c (.int .i64)],[(131,Zvi.S)]⟩
def Zzp:Zy6.S.Ok Tryz.prog 234:=Zy6.ok Tryz.func234 ⟨ZuS,trivial⟩
noncomputable def ZvD (a:LL) (c:Int) (d:Bool) (e:Int):Option (Int×LL×Int×Bool):=Zy6.S.g [.l a,.i c,.b d,.i e]
def Zrg (a:LL) (b:Int) (c:Bool) (e:Int):ZvD a b c e =
 (if c then
 Xa (0,a,b,c)
 else
 (Zyu a b).bind fun d=>
 if P0 .neq d.2.2 0 then
 Xa (0,a,b,Xb)
 else
 if P0 .gtr d.1 (Xi .u64 e) then
 Xa (0,a,b,Xb)
 else
 Xa ((Xi .i64 d.1),a,d.2.1,c)):=by kernel_rfl
noncomputable def ZEi:Fn:=⟨10,[2],[],[0],0,[],[],Tryz.f233,[.box [.slice 1,.int .i64,.bool]],[.agg [.int .i64,.int .i64,.int .i64]],[(234,Zy6.S)]⟩
def ZGp:ZEi.S.Ok Tryz.prog 233:=ZEi.ok Tryz.func233 ⟨Zzp,trivial⟩
noncomputable def Zyy (a:LL) (c:Int) (d:Bool):Option (Qt36):=ZEi.S.g [.l a,.i c,.b d]
def Zrc (d:LL) (e:Int) (f:Bool):Zyy d e f =
 ((ZvD d e f 32).bind fun a=>
 (ZvD a.2.1 a.2.2.1 a.2.2.2 1073741824).bind fun b=>
 (ZvD b.2.1 b.2.2.1 b.2.2.2 8).bind fun c=>
 Xa (a.1,b.1,c.1,c.2.1,c.2.2.1,c.2.2.2)):=by kernel_rfl
noncomputable def ZBV:Fn:=⟨65,[2,3],[(5,[(0,.c (.slice 1)),(2,.box hs27),(4,.box hs27),(43,.c (.int .i64))])],[],0,[],[],Tryz.f235,[.c (.slice 1)],[.agg hs27,.c (.int .i64)],[(166,Zx0.S)]⟩
def ZGf:ZBV.S.Ok Tryz.prog 235:=ZBV.ok Tryz.func235 ⟨Zxr,trivial⟩
noncomputable def ZHi (a:LL):Option (Qt32):=ZBV.S.g [.l a]
noncomputable def Zqm (k:Nat) (a:LL) (c d e f g h:Int) (j:Bool) (m n o p q r:Int) (s:Bool) (t:Int):Option (Qt32):=ZBV.lp [1,0,1,7] 0 r0 k [.l a,.i c,.i d,.i e,.i f,.i g,.i h,.b j,.i m,.i n,.i o,.i p,.i q,.i r,.b s,.i t]
def VS (k:Nat) (i:LL) (l m n o p q:Int) (r:Bool) (b c d e f g:Int) (h:Bool) (a:Int):Zqm (k+1) i l m n o p q r b c d e f g h a =
 (if P0 .lss a 5 then
 Zj i (P1 .add .i64 5 a) [.int .u8] fun (j:Int)=>
 Zy ((0:Int)≤(P1 .mul .i64 8 a))<|
 Zqm k i l m n o p q r b (P1 .or .i64 c (P1 .shl .i64 (Xi .i64 j) (P1 .mul .i64 8 a))) d e f g h (P1 .add .i64 a 1)
 else
 (ZBC b c d e f g h).bind fun j=>
 if (!j) then
 Xa (0,0,0,0,0,0,Xc,14)
 else
 Xa (b,c,d,e,f,g,h,0)):=by kernel_rfl
def Zww (a:LL):ZHi a =
 (if P0 .neq (Xh a:Int) 10 then
 Xa (0,0,0,0,0,0,Xc,14)
 else
 Zj a 2 [.int .u8] fun (b:Int)=>
 if P0 .gtr b 15 then
 Xa (0,0,0,0,0,0,Xc,14)
 else
 Zj a 0 [.int .u8] fun (c:Int)=>
 Zj a 1 [.int .u8] fun (d:Int)=>
 Zj a 2 [.int .u8] fun (e:Int)=>
 Zj a 3 [.int .u8] fun (f:Int)=>
 Zj a 4 [.int .u8] fun (g:Int)=>
 Zj a 2 [.int .u8] fun (h:Int)=>
 Zqm Zr a 0 0 0 0 0 0 Xc (Xi .i64 c) 0 (Xi .i64 d) (Xi .i64 (P1 .and .u8 e 7)) (Xi .i64 f) (Xi .i64 g) (P0 .neq (P1 .and .u8 h 8) 0) 0):=by kernel_rfl
noncomputable def ZAa:Fn:=⟨52,[2,3],[(4,[(0,.c (.slice 1)),(2,.box hs16),(4,.ptr 10 0),(5,.box hs14),(15,.c (.int .i64)),(16,.c (.int .i64)),(10,.box [.slice 1,.int .i64,.bool])])],[],0,[],[],Tryz.f221,[.c (.slice 1)],[.agg hs16,.c (.int .i64)],[(233,ZEi.S),(234,Zy6.S),(235,ZBV.S),(95,F95.S)]⟩
def ZHm:ZAa.S.Ok Tryz.prog 221:=ZAa.ok Tryz.func221 ⟨ZGp,⟨Zzp,⟨ZGf,⟨Zx4,trivial⟩⟩⟩⟩
noncomputable def ZEO (a:LL):Option (Qt28):=ZAa.S.g [.l a]
noncomputable def Zfw (k:Nat) (a:LL) (c d e:Int) (f:LL) (g h j m n o:Int) (p:Bool) (q r s:Int) (t:LL) (u v w x y z:Int) (A:Bool) (C D:Int) (E:LL) (G:Int) (H:Bool):Option (Qt28):=ZAa.lp [3] 0 r0 k [.l a,.i c,.i d,.i e,.l f,.i g,.i h,.i j,.i m,.i n,.i o,.b p,.i q,.i r,.i s,.l t,.i u,.i v,.i w,.i x,.i y,.i z,.b A,.i C,.i D,.l E,.i G,.b H]
def Zbd (k:Nat) (d:LL) (l m n:Int) (o:LL) (p q r s t u:Int) (v:Bool) (e f g:Int) (b:LL) (w x y z A C:Int) (D:Bool) (h i:Int) (E:LL) (c:Int) (j:Bool):Zfw (k+1) d l m n o p q r s t u v e f g b w x y z A C D h i E c j =
 (if P0 .lss i h then
 (Zyy E c j).bind fun a=>
 Zy (Z6 b (E0++[[I a.1,I a.2.1,I a.2.2.1]]) 24)<|
 Zfw k d l m n o p q r s t u v e f g (b++(E0++[[I a.1,I a.2.1,I a.2.2.1]])) w x y z A C D h (P1 .add .i64 i 1) a.2.2.2.1 (d4 a).1 a.2.2.2.2.2
 else
 if j then
 Xa (0,0,0,E0,0,0,0,0,0,0,Xc,14)
 else
 Zy ((0:Int)≤c)<|
 Zy ((c:Int)≤(Xh d:Int))<|
 (ZHi (Uw (XJ c) d)).bind fun a=>
 if P0 .neq a.2.2.2.2.2.2.2 0 then
 Xa (0,0,0,E0,0,0,0,0,0,0,Xc,14)
 else
 (g95 e f g b a.1 a.2.1 a.2.2.1 a.2.2.2.1 (d4 a).1 (d4 a).2.1 (d6 a).1).bind fun G=>
 if (!G) then
 Xa (0,0,0,E0,0,0,0,0,0,0,Xc,14)
 else
 Xa (e,f,g,b,a.1,a.2.1,a.2.2.1,a.2.2.2.1,(d4 a).1,(d4 a).2.1,(d6 a).1,0)):=by kernel_rfl
def ZxC (c:LL):ZEO c =
 ((Zyy c 0 Xc).bind fun a=>
 (ZvD a.2.2.2.1 (d4 a).1 a.2.2.2.2.2 8).bind fun b=>
 Zfw Zr c 0 0 0 E0 0 0 0 0 0 0 Xc a.1 a.2.1 a.2.2.1 E0 0 0 0 0 0 0 Xc b.1 0 b.2.1 b.2.2.1 b.2.2.2):=by kernel_rfl
noncomputable def Zyp:Fn:=⟨50,[2],[],[0],0,[],[],Tryz.f187,[.box [.slice 1,.int .i64,.bool]],[.agg hs16],[(188,ZtE.S),(221,ZAa.S)]⟩
def Zvj:Zyp.S.Ok Tryz.prog 187:=Zyp.ok Tryz.func187 ⟨ZnL,⟨ZHm,trivial⟩⟩
noncomputable def Zyf (a:LL) (c:Int) (d:Bool):Option (Qt23):=Zyp.S.g [.l a,.i c,.b d]
def ZwW (c:LL) (d:Int) (e:Bool):Zyf c d e =
 ((ZoC c d e).bind fun a=>
 if a.2.2.2 then
 Xa (0,0,0,E0,0,0,0,0,0,0,Xc,a.2.1,a.2.2.1,a.2.2.2)
 else
 if P0 .eql a.1 0 then
 Xa (0,0,0,E0,0,0,0,0,0,0,Xc,a.2.1,a.2.2.1,a.2.2.2)
 else
 Zy ((0:Int)≤a.2.2.1)<|
 Zy ((a.2.2.1:Int)≤(P1 .add .i64 a.2.2.1 a.1))<|
 Zy (((P1 .add .i64 a.2.2.1 a.1):Int)≤(Xh a.2.1:Int))<|
 (ZEO (Uw (XJ a.2.2.1) (List.take (XJ (P1 .add .i64 a.2.2.1 a.1)) a.2.1))).bind fun b=>
 if P0 .neq b.2.2.2.2.2.2.2.2.2.2.2 0 then
 Xa (b.1,b.2.1,b.2.2.1,b.2.2.2.1,(d4 b).1,(d4 b).2.1,(d6 b).1,(d6 b).2.1,(d8 b).1,(d8 b).2.1,(df b).1,a.2.1,(P1 .add .i64 a.2.2.1 a.1),Xb)
 else
 Xa (b.1,b.2.1,b.2.2.1,b.2.2.2.1,(d4 b).1,(d4 b).2.1,(d6 b).1,(d6 b).2.1,(d8 b).1,(d8 b).2.1,(df b).1,a.2.1,(P1 .add .i64 a.2.2.1 a.1),a.2.2.2)):=by kernel_rfl
noncomputable def ZzV:Fn:=⟨14,[2],[],[0],0,[],[],Tryz.f132,[.box [.slice 1,.int .i64,.bool]],[.agg hs6],[(133,ZuO.S),(186,ZD5.S),(63,F63.S),(187,Zyp.S)]⟩
def ZA1:ZzV.S.Ok Tryz.prog 132:=ZzV.ok Tryz.func132 ⟨Zts,⟨ZGv,⟨ZoY,⟨Zvj,trivial⟩⟩⟩⟩
noncomputable def ZEh (a:LL) (c:Int) (d:Bool):Option (Qt8):=ZzV.S.g [.l a,.i c,.b d]
def Zuk (f:LL) (g:Int) (h:Bool):ZEh f g h =
 ((ZvV f g h).bind fun c=>
 (ZGB c.2.2.2.1 (d4 c).1 c.2.2.2.2.2).bind fun a=>
 (g63 (dg a).1 (dg a).2.1 (dh a)).bind fun d=>
 (g63 d.2.1 d.2.2.1 d.2.2.2).bind fun e=>
 (Zyf e.2.1 e.2.2.1 e.2.2.2).bind fun b=>
 Xa (c.1,c.2.1,c.2.2.1,a.1,a.2.1,a.2.2.1,a.2.2.2.1,(d4 a).1,(d4 a).2.1,(d6 a).1,(d6 a).2.1,(d8 a).1,(d8 a).2.1,(df a).1,(df a).2.1,d.1,e.1,b.1,b.2.1,b.2.2.1,b.2.2.2.1,(d4 b).1,(d4 b).2.1,(d6 b).1,(d6 b).2.1,(d8 b).1,(d8 b).2.1,(df b).1,(df b).2.1,(dg b).1,(dg b).2)):=by kernel_rfl
noncomputable def ZC0:Fn:=⟨13,[2],[],[0],0,[],[],Tryz.f134,[.box [.slice 1,.int .i64,.bool]],[.c (.bool)],[(63,F63.S)]⟩
def ZAX:ZC0.S.Ok Tryz.prog 134:=ZC0.ok Tryz.func134 ⟨ZoY,trivial⟩
noncomputable def ZDO (a:LL) (c:Int) (d:Bool):Option (Bool×LL×Int×Bool):=ZC0.S.g [.l a,.i c,.b d]
def Zxk (b:LL) (c:Int) (d:Bool):ZDO b c d =
 ((g63 b c d).bind fun a=>
 if P0 .gtr a.1 1 then
 Xa ((P0 .eql a.1 1),a.2.1,a.2.2.1,Xb)
 else
 Xa ((P0 .eql a.1 1),a.2.1,a.2.2.1,a.2.2.2)):=by kernel_rfl
noncomputable def ZC1:Fn:=⟨15,[2],[(3,[(0,.box [.slice 1,.int .i64,.bool]),(3,.c (.own Xc 33)),(5,.c (.int .i64)),(6,.c (.int .i64))])],[0],0,[],[],Tryz.f135,[.box [.slice 1,.int .i64,.bool]],[.c (.own Xc 33)],[(188,ZtE.S),(187,Zyp.S)]⟩
def ZFc:ZC1.S.Ok Tryz.prog 135:=ZC1.ok Tryz.func135 ⟨ZnL,⟨Zvj,trivial⟩⟩
noncomputable def ZEp (a:LL) (c:Int) (d:Bool):Option (LL×LL×Int×Bool):=ZC1.S.g [.l a,.i c,.b d]
noncomputable def ZmB (k:Nat) (a:LL) (c:Int) (d:Bool) (e:LL) (f g:Int):Option (LL×LL×Int×Bool):=ZC1.lp [2] 0 r0 k [.l a,.i c,.b d,.l e,.i f,.i g]
def ZiG (k:Nat) (c:LL) (d:Int) (e:Bool) (b:LL) (f g:Int):ZmB (k+1) c d e b f g =
 (if P0 .lss g f then
 (Zyf c d e).bind fun a=>
 Zy (Z6 b (E0++[[I a.1,I a.2.1,I a.2.2.1,AV.slice Xc 3 a.2.2.2.1,I (d4 a).1,I (d4 a).2.1,I (d6 a).1,I (d6 a).2.1,I (d8 a).1,I (d8 a).2.1,B (df a).1]]) 104)<|
 ZmB k (df a).2.1 (dg a).1 (dg a).2 (b++(E0++[[I a.1,I a.2.1,I a.2.2.1,AV.slice Xc 3 a.2.2.2.1,I (d4 a).1,I (d4 a).2.1,I (d6 a).1,I (d6 a).2.1,I (d8 a).1,I (d8 a).2.1,B (df a).1]])) f (P1 .add .i64 g 1)
 else
 Xa (b,c,d,e)):=by kernel_rfl
def ZwZ (b:LL) (c:Int) (d:Bool):ZEp b c d =
 ((ZoC b c d).bind fun a=>
 ZmB Zr a.2.1 a.2.2.1 a.2.2.2 E0 a.1 0):=by kernel_rfl
noncomputable def ZyB:Fn:=⟨15,[2],[(3,[(0,.box [.slice 1,.int .i64,.bool]),(3,.c (.own Xc 25)),(5,.c (.int .i64)),(6,.c (.int .i64))])],[0],0,[],[],Tryz.f136,[.box [.slice 1,.int .i64,.bool]],[.c (.own Xc 25)],[(188,ZtE.S),(133,ZuO.S)]⟩
def ZBG:ZyB.S.Ok Tryz.prog 136:=ZyB.ok Tryz.func136 ⟨ZnL,⟨Zts,trivial⟩⟩
noncomputable def ZDI (a:LL) (c:Int) (d:Bool):Option (LL×LL×Int×Bool):=ZyB.S.g [.l a,.i c,.b d]
noncomputable def Zmw (k:Nat) (a:LL) (c:Int) (d:Bool) (e:LL) (f g:Int):Option (LL×LL×Int×Bool):=ZyB.lp [2] 0 r0 k [.l a,.i c,.b d,.l e,.i f,.i g]
def ZjB (k:Nat) (c:LL) (d:Int) (e:Bool) (b:LL) (f g:Int):Zmw (k+1) c d e b f g =
 (if P0 .lss g f then
 (ZvV c d e).bind fun a=>
 Zy (Z6 b (E0++[[I a.1,I a.2.1,I a.2.2.1]]) 24)<|
 Zmw k a.2.2.2.1 (d4 a).1 a.2.2.2.2.2 (b++(E0++[[I a.1,I a.2.1,I a.2.2.1]])) f (P1 .add .i64 g 1)
 else
 Xa (b,c,d,e)):=by kernel_rfl
def ZuC (b:LL) (c:Int) (d:Bool):ZDI b c d =
 ((ZoC b c d).bind fun a=>
 Zmw Zr a.2.1 a.2.2.1 a.2.2.2 E0 a.1 0):=by kernel_rfl
noncomputable def Zys:Fn:=⟨15,[2],[(3,[(0,.box [.slice 1,.int .i64,.bool]),(3,.c (.own Xc 3)),(5,.c (.int .i64)),(6,.c (.int .i64))])],[0],0,[],[],Tryz.f137,[.box [.slice 1,.int .i64,.bool]],[.c (.own Xc 3)],[(188,ZtE.S),(63,F63.S)]⟩
def ZCA:Zys.S.Ok Tryz.prog 137:=Zys.ok Tryz.func137 ⟨ZnL,⟨ZoY,trivial⟩⟩
noncomputable def ZBL (a:LL) (c:Int) (d:Bool):Option (LL×LL×Int×Bool):=Zys.S.g [.l a,.i c,.b d]
noncomputable def Zmv (k:Nat) (a:LL) (c:Int) (d:Bool) (e:LL) (f g:Int):Option (LL×LL×Int×Bool):=Zys.lp [2] 0 r0 k [.l a,.i c,.b d,.l e,.i f,.i g]
def ZhJ (k:Nat) (c:LL) (d:Int) (e:Bool) (b:LL) (f g:Int):Zmv (k+1) c d e b f g =
 (if P0 .lss g f then
 (g63 c d e).bind fun a=>
 Zy (Z6 b (E0++[[I a.1]]) 8)<|
 Zmv k a.2.1 a.2.2.1 a.2.2.2 (b++(E0++[[I a.1]])) f (P1 .add .i64 g 1)
 else
 Xa (b,c,d,e)):=by kernel_rfl
def Zwr (b:LL) (c:Int) (d:Bool):ZBL b c d =
 ((ZoC b c d).bind fun a=>
 Zmv Zr a.2.1 a.2.2.1 a.2.2.2 E0 a.1 0):=by kernel_rfl
noncomputable def ZAV:Fn:=⟨10,[2],[],[0],0,[],[],Tryz.f139,[.box [.slice 1,.int .i64,.bool]],[.agg [.int .i64,.slice 1,.slice 1]],[(63,F63.S),(137,Zys.S)]⟩
def Zz0:ZAV.S.Ok Tryz.prog 139:=ZAV.ok Tryz.func139 ⟨ZoY,⟨ZCA,trivial⟩⟩
noncomputable def Zzv (a:LL) (c:Int) (d:Bool):Option (Qt37):=ZAV.S.g [.l a,.i c,.b d]
def ZvK (d:LL) (e:Int) (f:Bool):Zzv d e f =
 ((g63 d e f).bind fun a=>
 (ZBL a.2.1 a.2.2.1 a.2.2.2).bind fun b=>
 (ZBL b.2.1 b.2.2.1 b.2.2.2).bind fun c=>
 Xa (a.1,b.1,c.1,c.2.1,c.2.2.1,c.2.2.2)):=by kernel_rfl
noncomputable def ZrD:Fn:=⟨84,[2],[(3,[(0,.box [.slice 1,.int .i64,.bool]),(2,.box hs30),(3,.box hs20),(5,.c (.int .i64)),(6,.c (.int .i64))]),(7,[(0,.box [.slice 1,.int .i64,.bool]),(2,.box hs30),(3,.box hs20),(22,.c (.int .i64)),(23,.c (.int .i64))]),(11,[(0,.box [.slice 1,.int .i64,.bool]),(2,.box hs30),(3,.box hs20),(34,.c (.int .i64)),(35,.c (.int .i64))]),(15,[(0,.box [.slice 1,.int .i64,.bool]),(2,.box hs30),(3,.box hs20),(49,.c (.int .i64)),(50,.c (.int .i64))]),(19,[(0,.box [.slice 1,.int .i64,.bool]),(2,.box hs30),(3,.box hs20),(64,.c (.int .i64)),(65,.c (.int .i64))])],[0],0,[],[],Tryz.f140,[.box [.slice 1,.int .i64,.bool]],[.agg hs30],[(188,ZtE.S),(187,Zyp.S),(63,F63.S),(133,ZuO.S),(132,ZzV.S),(136,ZyB.S)]⟩
def ZCo:ZrD.S.Ok Tryz.prog 140:=ZrD.ok Tryz.func140 ⟨ZnL,⟨Zvj,⟨ZoY,⟨Zts,⟨ZA1,⟨ZBG,trivial⟩⟩⟩⟩⟩⟩
noncomputable def ZBS (a:LL) (c:Int) (d:Bool):Option (Qt33):=ZrD.S.g [.l a,.i c,.b d]
noncomputable def ZjN (k:Nat) (a:LL) (c:Int) (d:Bool) (e f g h j m n o p q r s:LL) (t u:Int):Option (Qt33):=ZrD.lp [2,1,2,1,2,1,2,1,2] 0 r0 k [.l a,.i c,.b d,.l e,.l f,.l g,.l h,.l j,.l m,.l n,.l o,.l p,.l q,.l r,.l s,.i t,.i u]
def Zi3 (k:Nat) (e:LL) (f:Int) (g:Bool) (o p q r s t h i j l d u:LL) (m n:Int):ZjN (k+1) e f g o p q r s t h i j l d u m n =
 (if P0 .lss n m then
 (g63 e f g).bind fun b=>
 (g63 b.2.1 b.2.2.1 b.2.2.2).bind fun c=>
 (Zyf c.2.1 c.2.2.1 c.2.2.2).bind fun a=>
 Zy (Z6 d (E0++[[I b.1,I c.1,I a.1,I a.2.1,I a.2.2.1,AV.slice Xc 3 a.2.2.2.1,I (d4 a).1,I (d4 a).2.1,I (d6 a).1,I (d6 a).2.1,I (d8 a).1,I (d8 a).2.1,B (df a).1]]) 120)<|
 ZjN k (df a).2.1 (dg a).1 (dg a).2 o p q r s t h i j l (d++(E0++[[I b.1,I c.1,I a.1,I a.2.1,I a.2.2.1,AV.slice Xc 3 a.2.2.2.1,I (d4 a).1,I (d4 a).2.1,I (d6 a).1,I (d6 a).2.1,I (d8 a).1,I (d8 a).2.1,B (df a).1]])) u m (P1 .add .i64 n 1)
 else
 (ZDI e f g).bind fun b=>
 Xa (h,i,j,l,d,b.1,b.2.1,b.2.2.1,b.2.2.2)):=by kernel_rfl
noncomputable def ZhY (k:Nat) (a:LL) (c:Int) (d:Bool) (e f g h j m n o p q r s:LL) (t u:Int):Option (Qt33):=ZrD.lp [2,1,2,1,2,1,2] 0 r0 k [.l a,.i c,.b d,.l e,.l f,.l g,.l h,.l j,.l m,.l n,.l o,.l p,.l q,.l r,.l s,.i t,.i u]
def ZhH (k:Nat) (d:LL) (e:Int) (f:Bool) (g h i j l m n o p c q r:LL) (s t:Int):ZhY (k+1) d e f g h i j l m n o p c q r s t =
 (if P0 .lss t s then
 (g63 d e f).bind fun a=>
 (g63 a.2.1 a.2.2.1 a.2.2.2).bind fun b=>
 Zy (Z6 c (E0++[[I a.1,I b.1]]) 16)<|
 ZhY k b.2.1 b.2.2.1 b.2.2.2 g h i j l m n o p (c++(E0++[[I a.1,I b.1]])) q r s (P1 .add .i64 t 1)
 else
 (ZoC d e f).bind fun a=>
 ZjN Zr a.2.1 a.2.2.1 a.2.2.2 g h i j l m n o p c q r a.1 0):=by kernel_rfl
noncomputable def ZjW (k:Nat) (a:LL) (c:Int) (d:Bool) (e f g h j m n o p q r s:LL) (t u:Int):Option (Qt33):=ZrD.lp [2,1,2,1,2] 0 r0 k [.l a,.i c,.b d,.l e,.l f,.l g,.l h,.l j,.l m,.l n,.l o,.l p,.l q,.l r,.l s,.i t,.i u]
def Zjx (k:Nat) (d:LL) (e:Int) (f:Bool) (g h i j l m n o c p q r:LL) (s t:Int):ZjW (k+1) d e f g h i j l m n o c p q r s t =
 (if P0 .lss t s then
 (g63 d e f).bind fun a=>
 (ZvV a.2.1 a.2.2.1 a.2.2.2).bind fun b=>
 Zy (Z6 c (E0++[[I a.1,I b.1,I b.2.1,I b.2.2.1]]) 32)<|
 ZjW k b.2.2.2.1 (d4 b).1 b.2.2.2.2.2 g h i j l m n o (c++(E0++[[I a.1,I b.1,I b.2.1,I b.2.2.1]])) p q r s (P1 .add .i64 t 1)
 else
 (ZoC d e f).bind fun a=>
 ZhY Zr a.2.1 a.2.2.1 a.2.2.2 g h i j l m n o c p q r a.1 0):=by kernel_rfl
noncomputable def Zii (k:Nat) (a:LL) (c:Int) (d:Bool) (e f g h j m n o p q r s:LL) (t u:Int):Option (Qt33):=ZrD.lp [2,1,2] 0 r0 k [.l a,.i c,.b d,.l e,.l f,.l g,.l h,.l j,.l m,.l n,.l o,.l p,.l q,.l r,.l s,.i t,.i u]
def Ziq (k:Nat) (c:LL) (d:Int) (e:Bool) (f g h i j l m b n o p q:LL) (r s:Int):Zii (k+1) c d e f g h i j l m b n o p q r s =
 (if P0 .lss s r then
 (ZEh c d e).bind fun a=>
 Zy (Z6 b (E0++[[I a.1,I a.2.1,I a.2.2.1,I a.2.2.2.1,I (d4 a).1,I (d4 a).2.1,I (d6 a).1,I (d6 a).2.1,I (d8 a).1,I (d8 a).2.1,I (df a).1,I (df a).2.1,I (dg a).1,I (dg a).2.1,I (dh a).1,I (dh a).2.1,I (P2 a).1,I (P2 a).2.1,I (d2 (P2 a)).1,I (d2 (P2 a)).2.1,AV.slice Xc 3 (d4 (P2 a)).1,I (d4 (P2 a)).2.1,I (d6 (P2 a)).1,I (d6 (P2 a)).2.1,I (d8 (P2 a)).1,I (d8 (P2 a)).2.1,I (df (P2 a)).1,B (df (P2 a)).2.1]]) 240)<|
 Zii k (dg (P2 a)).1 (dg (P2 a)).2.1 (dh (P2 a)) f g h i j l m (b++(E0++[[I a.1,I a.2.1,I a.2.2.1,I a.2.2.2.1,I (d4 a).1,I (d4 a).2.1,I (d6 a).1,I (d6 a).2.1,I (d8 a).1,I (d8 a).2.1,I (df a).1,I (df a).2.1,I (dg a).1,I (dg a).2.1,I (dh a).1,I (dh a).2.1,I (P2 a).1,I (P2 a).2.1,I (d2 (P2 a)).1,I (d2 (P2 a)).2.1,AV.slice Xc 3 (d4 (P2 a)).1,I (d4 (P2 a)).2.1,I (d6 (P2 a)).1,I (d6 (P2 a)).2.1,I (d8 (P2 a)).1,I (d8 (P2 a)).2.1,I (df (P2 a)).1,B (df (P2 a)).2.1]])) n o p q r (P1 .add .i64 s 1)
 else
 (ZoC c d e).bind fun a=>
 ZjW Zr a.2.1 a.2.2.1 a.2.2.2 f g h i j l m b n o p q a.1 0):=by kernel_rfl
noncomputable def ZhW (k:Nat) (a:LL) (c:Int) (d:Bool) (e f g h j m n o p q r s:LL) (t u:Int):Option (Qt33):=ZrD.lp [2] 0 r0 k [.l a,.i c,.b d,.l e,.l f,.l g,.l h,.l j,.l m,.l n,.l o,.l p,.l q,.l r,.l s,.i t,.i u]
def ZhX (k:Nat) (e:LL) (f:Int) (g:Bool) (h i j l m n d o p q r s:LL) (t u:Int):ZhW (k+1) e f g h i j l m n d o p q r s t u =
 (if P0 .lss u t then
 (Zyf e f g).bind fun a=>
 (g63 (df a).2.1 (dg a).1 (dg a).2).bind fun c=>
 (ZvV c.2.1 c.2.2.1 c.2.2.2).bind fun b=>
 Zy (Z6 d (E0++[[I a.1,I a.2.1,I a.2.2.1,AV.slice Xc 3 a.2.2.2.1,I (d4 a).1,I (d4 a).2.1,I (d6 a).1,I (d6 a).2.1,I (d8 a).1,I (d8 a).2.1,B (df a).1,I c.1,I b.1,I b.2.1,I b.2.2.1]]) 136)<|
 ZhW k b.2.2.2.1 (d4 b).1 b.2.2.2.2.2 h i j l m n (d++(E0++[[I a.1,I a.2.1,I a.2.2.1,AV.slice Xc 3 a.2.2.2.1,I (d4 a).1,I (d4 a).2.1,I (d6 a).1,I (d6 a).2.1,I (d8 a).1,I (d8 a).2.1,B (df a).1,I c.1,I b.1,I b.2.1,I b.2.2.1]])) o p q r s t (P1 .add .i64 u 1)
 else
 (ZoC e f g).bind fun a=>
 Zii Zr a.2.1 a.2.2.1 a.2.2.2 h i j l m n d o p q r s a.1 0):=by kernel_rfl
def Zun (b:LL) (c:Int) (d:Bool):ZBS b c d =
 ((ZoC b c d).bind fun a=>
 ZhW Zr a.2.1 a.2.2.1 a.2.2.2 E0 E0 E0 E0 E0 E0 E0 E0 E0 E0 E0 E0 a.1 0):=by kernel_rfl
noncomputable def ZC9:Fn:=⟨16,[2],[],[0],0,[],[],Tryz.f138,[.box [.slice 1,.int .i64,.bool]],[.agg hs7],[(63,F63.S),(139,ZAV.S),(140,ZrD.S),(134,ZC0.S)]⟩
def ZFq:ZC9.S.Ok Tryz.prog 138:=ZC9.ok Tryz.func138 ⟨ZoY,⟨Zz0,⟨ZCo,⟨ZAX,trivial⟩⟩⟩⟩
noncomputable def ZHZ (a:LL) (c:Int) (d:Bool):Option (Qt15):=ZC9.S.g [.l a,.i c,.b d]
def Zw7 (g:LL) (h:Int) (i:Bool):ZHZ g h i =
 ((g63 g h i).bind fun e=>
 (Zzv e.2.1 e.2.2.1 e.2.2.2).bind fun c=>
 (ZBS c.2.2.2.1 (d4 c).1 c.2.2.2.2.2).bind fun a=>
 (ZDO (d6 a).1 (d6 a).2.1 a.2.2.2.2.2.2.2.2).bind fun f=>
 (Zzv f.2.1 f.2.2.1 f.2.2.2).bind fun d=>
 (ZBS d.2.2.2.1 (d4 d).1 d.2.2.2.2.2).bind fun b=>
 Xa (e.1,c.1,c.2.1,c.2.2.1,a.1,a.2.1,a.2.2.1,a.2.2.2.1,(d4 a).1,(d4 a).2.1,f.1,d.1,d.2.1,d.2.2.1,b.1,b.2.1,b.2.2.1,b.2.2.2.1,(d4 b).1,(d4 b).2.1,(d6 b).1,(d6 b).2.1,b.2.2.2.2.2.2.2.2)):=by kernel_rfl
noncomputable def ZyF:Fn:=⟨18,[2],[(3,[(0,.box [.slice 1,.int .i64,.bool]),(3,.c (.own Xc 81)),(5,.c (.int .i64)),(6,.c (.int .i64))])],[0],0,[],[],Tryz.f141,[.box [.slice 1,.int .i64,.bool]],[.c (.own Xc 81)],[(188,ZtE.S),(63,F63.S)]⟩
def ZG2:ZyF.S.Ok Tryz.prog 141:=ZyF.ok Tryz.func141 ⟨ZnL,⟨ZoY,trivial⟩⟩
noncomputable def ZEq (a:LL) (c:Int) (d:Bool):Option (LL×LL×Int×Bool):=ZyF.S.g [.l a,.i c,.b d]
noncomputable def Znh (k:Nat) (a:LL) (c:Int) (d:Bool) (e:LL) (f g:Int):Option (LL×LL×Int×Bool):=ZyF.lp [2] 0 r0 k [.l a,.i c,.b d,.l e,.i f,.i g]
def ZiW (k:Nat) (d:LL) (e:Int) (f:Bool) (c:LL) (g h:Int):Znh (k+1) d e f c g h =
 (if P0 .lss h g then
 (g63 d e f).bind fun a=>
 (g63 a.2.1 a.2.2.1 a.2.2.2).bind fun b=>
 Zy (Z6 c (E0++[[I a.1,I b.1]]) 16)<|
 Znh k b.2.1 b.2.2.1 b.2.2.2 (c++(E0++[[I a.1,I b.1]])) g (P1 .add .i64 h 1)
 else
 Xa (c,d,e,f)):=by kernel_rfl
def Zwg (b:LL) (c:Int) (d:Bool):ZEq b c d =
 ((ZoC b c d).bind fun a=>
 Znh Zr a.2.1 a.2.2.1 a.2.2.2 E0 a.1 0):=by kernel_rfl
noncomputable def F64:Fn:=⟨112,[],[],[0,1],0,[],[],Tryz.f64,[.box [.slice 1,.int .i64,.bool],.box hs0,.c (.int .i64)],[],[(63,F63.S),(132,ZzV.S),(133,ZuO.S),(134,ZC0.S),(135,ZC1.S),(136,ZyB.S),(137,Zys.S),(138,ZC9.S),(139,ZAV.S),(140,ZrD.S),(141,ZyF.S)]⟩
def ZJS:F64.S.Ok Tryz.prog 64:=F64.ok Tryz.func64 ⟨ZoY,⟨ZA1,⟨Zts,⟨ZAX,⟨ZFc,⟨ZBG,⟨ZCA,⟨ZFq,⟨Zz0,⟨ZCo,⟨ZG2,trivial⟩⟩⟩⟩⟩⟩⟩⟩⟩⟩⟩
noncomputable def g64 (a:LL) (c:Int) (d:Bool) (e f h j k m n o p q r:Int) (s:Bool) (t u v w x y z A C D E G H J K L M N O P:Int) (Q:LL) (R T U V W X:Int) (Y:Bool) (Z aa ab ac:LL) (ad ae:Int) (af ag ah ai aj ak al am:LL) (an ao:Int) (ap aq ar aZ au av aw ax:LL) (ay:Bool) (az:Int) (a0 a1 a2 a3 a4 a5 a6 a7:LL) (a8:Int):Option (Qt1):=F64.S.g [.l a,.i c,.b d,.i e,.i f,.i h,.i j,.i k,.i m,.i n,.i o,.i p,.i q,.i r,.b s,.i t,.i u,.i v,.i w,.i x,.i y,.i z,.i A,.i C,.i D,.i E,.i G,.i H,.i J,.i K,.i L,.i M,.i N,.i O,.i P,.l Q,.i R,.i T,.i U,.i V,.i W,.i X,.b Y,.l Z,.l aa,.l ab,.l ac,.i ad,.i ae,.l af,.l ag,.l ah,.l ai,.l aj,.l ak,.l al,.l am,.i an,.i ao,.l ap,.l aq,.l ar,.l aZ,.l au,.l av,.l aw,.l ax,.b ay,.i az,.l a0,.l a1,.l a2,.l a3,.l a4,.l a5,.l a6,.l a7,.i a8]
def Vn (b:LL) (c:Int) (d:Bool) (e f g h i j k l m n o:Int) (p:Bool) (q r s t u v w x y z A C D E G H J K L M:Int) (N:LL) (O P Q R T U:Int) (V:Bool) (W X Y Z:LL) (S ab:Int) (ac ad ae af ag ah ai aj:LL) (ak al:Int) (am an ao ap aq ar aZ au:LL) (av:Bool) (aw:Int) (ax ay az a0 a1 a2 a3 a4:LL) (a5:Int):g64 b c d e f g h i j k l m n o p q r s t u v w x y z A C D E G H J K L M N O P Q R T U V W X Y Z S ab ac ad ae af ag ah ai aj ak al am an ao ap aq ar aZ au av aw ax ay az a0 a1 a2 a3 a4 a5 =
 (if P0 .eql a5 0 then
 (g63 b c d).bind fun a=>
 Xa (a.2.1,a.2.2.1,a.2.2.2,e,f,g,h,i,a.1,k,l,m,n,o,p,q,r,s,t,u,v,w,x,y,z,A,C,D,E,G,H,J,K,L,M,N,O,P,Q,R,T,U,V,W,X,Y,Z,S,ab,ac,ad,ae,af,ag,ah,ai,aj,ak,al,am,an,ao,ap,aq,ar,aZ,au,av,aw,ax,ay,az,a0,a1,a2,a3,a4)
 else
 if P0 .eql a5 1 then
 (ZEh b c d).bind fun a=>
 Xa ((dg (P2 a)).1,(dg (P2 a)).2.1,(dh (P2 a)),e,f,g,h,i,j,k,l,m,n,o,p,a.1,a.2.1,a.2.2.1,a.2.2.2.1,(d4 a).1,(d4 a).2.1,(d6 a).1,(d6 a).2.1,(d8 a).1,(d8 a).2.1,(df a).1,(df a).2.1,(dg a).1,(dg a).2.1,(dh a).1,(dh a).2.1,(P2 a).1,(P2 a).2.1,(d2 (P2 a)).1,(d2 (P2 a)).2.1,(d4 (P2 a)).1,(d4 (P2 a)).2.1,(d6 (P2 a)).1,(d6 (P2 a)).2.1,(d8 (P2 a)).1,(d8 (P2 a)).2.1,(df (P2 a)).1,(df (P2 a)).2.1,W,X,Y,Z,S,ab,ac,ad,ae,af,ag,ah,ai,aj,ak,al,am,an,ao,ap,aq,ar,aZ,au,av,aw,ax,ay,az,a0,a1,a2,a3,a4)
 else
 if P0 .eql a5 2 then
 (ZvV b c d).bind fun a=>
 Xa (a.2.2.2.1,(d4 a).1,a.2.2.2.2.2,e,f,g,h,i,j,k,a.1,a.2.1,a.2.2.1,o,p,q,r,s,t,u,v,w,x,y,z,A,C,D,E,G,H,J,K,L,M,N,O,P,Q,R,T,U,V,W,X,Y,Z,S,ab,ac,ad,ae,af,ag,ah,ai,aj,ak,al,am,an,ao,ap,aq,ar,aZ,au,av,aw,ax,ay,az,a0,a1,a2,a3,a4)
 else
 if P0 .eql a5 3 then
 (g63 b c d).bind fun a=>
 Xa (a.2.1,a.2.2.1,a.2.2.2,e,f,g,h,i,j,k,l,m,n,a.1,p,q,r,s,t,u,v,w,x,y,z,A,C,D,E,G,H,J,K,L,M,N,O,P,Q,R,T,U,V,W,X,Y,Z,S,ab,ac,ad,ae,af,ag,ah,ai,aj,ak,al,am,an,ao,ap,aq,ar,aZ,au,av,aw,ax,ay,az,a0,a1,a2,a3,a4)
 else
 if P0 .eql a5 4 then
 (ZDO b c d).bind fun a=>
 Xa (a.2.1,a.2.2.1,a.2.2.2,e,f,g,h,i,j,k,l,m,n,o,a.1,q,r,s,t,u,v,w,x,y,z,A,C,D,E,G,H,J,K,L,M,N,O,P,Q,R,T,U,V,W,X,Y,Z,S,ab,ac,ad,ae,af,ag,ah,ai,aj,ak,al,am,an,ao,ap,aq,ar,aZ,au,av,aw,ax,ay,az,a0,a1,a2,a3,a4)
 else
 if P0 .eql a5 5 then
 (ZEp b c d).bind fun a=>
 Xa (a.2.1,a.2.2.1,a.2.2.2,e,f,g,h,i,j,k,l,m,n,o,p,q,r,s,t,u,v,w,x,y,z,A,C,D,E,G,H,J,K,L,M,N,O,P,Q,R,T,U,V,W,a.1,Y,Z,S,ab,ac,ad,ae,af,ag,ah,ai,aj,ak,al,am,an,ao,ap,aq,ar,aZ,au,av,aw,ax,ay,az,a0,a1,a2,a3,a4)
 else
 if P0 .eql a5 6 then
 (g63 b c d).bind fun a=>
 Xa (a.2.1,a.2.2.1,a.2.2.2,e,f,g,h,i,j,a.1,l,m,n,o,p,q,r,s,t,u,v,w,x,y,z,A,C,D,E,G,H,J,K,L,M,N,O,P,Q,R,T,U,V,W,X,Y,Z,S,ab,ac,ad,ae,af,ag,ah,ai,aj,ak,al,am,an,ao,ap,aq,ar,aZ,au,av,aw,ax,ay,az,a0,a1,a2,a3,a4)
 else
 if P0 .eql a5 7 then
 (ZDI b c d).bind fun a=>
 Xa (a.2.1,a.2.2.1,a.2.2.2,e,f,g,h,i,j,k,l,m,n,o,p,q,r,s,t,u,v,w,x,y,z,A,C,D,E,G,H,J,K,L,M,N,O,P,Q,R,T,U,V,a.1,X,Y,Z,S,ab,ac,ad,ae,af,ag,ah,ai,aj,ak,al,am,an,ao,ap,aq,ar,aZ,au,av,aw,ax,ay,az,a0,a1,a2,a3,a4)
 else
 if P0 .eql a5 8 then
 (g63 b c d).bind fun a=>
 Xa (a.2.1,a.2.2.1,a.2.2.2,e,f,g,h,a.1,j,k,l,m,n,o,p,q,r,s,t,u,v,w,x,y,z,A,C,D,E,G,H,J,K,L,M,N,O,P,Q,R,T,U,V,W,X,Y,Z,S,ab,ac,ad,ae,af,ag,ah,ai,aj,ak,al,am,an,ao,ap,aq,ar,aZ,au,av,aw,ax,ay,az,a0,a1,a2,a3,a4)
 else
 if P0 .eql a5 9 then
 (ZBL b c d).bind fun a=>
 Xa (a.2.1,a.2.2.1,a.2.2.2,e,f,g,h,i,j,k,l,m,n,o,p,q,r,s,t,u,v,w,x,y,z,A,C,D,E,G,H,J,K,L,M,N,O,P,Q,R,T,U,V,W,X,a.1,Z,S,ab,ac,ad,ae,af,ag,ah,ai,aj,ak,al,am,an,ao,ap,aq,ar,aZ,au,av,aw,ax,ay,az,a0,a1,a2,a3,a4)
 else
 if P0 .eql a5 10 then
 (ZHZ b c d).bind fun a=>
 Xa ((d4 (P2 a)).1,(d4 (P2 a)).2.1,(d6 (P2 a)),e,f,g,h,i,j,k,l,m,n,o,p,q,r,s,t,u,v,w,x,y,z,A,C,D,E,G,H,J,K,L,M,N,O,P,Q,R,T,U,V,W,X,Y,Z,S,ab,ac,ad,ae,af,ag,ah,ai,aj,a.1,a.2.1,a.2.2.1,a.2.2.2.1,(d4 a).1,(d4 a).2.1,(d6 a).1,(d6 a).2.1,(d8 a).1,(d8 a).2.1,(df a).1,(df a).2.1,(dg a).1,(dg a).2.1,(dh a).1,(dh a).2.1,(P2 a).1,(P2 a).2.1,(d2 (P2 a)).1,(d2 (P2 a)).2.1)
 else
 if P0 .eql a5 11 then
 (g63 b c d).bind fun a=>
 Xa (a.2.1,a.2.2.1,a.2.2.2,e,f,g,h,i,j,k,l,m,n,o,p,q,r,s,t,u,v,w,x,y,z,A,C,D,E,G,H,J,K,L,M,N,O,P,Q,R,T,U,V,W,X,Y,Z,a.1,ab,ac,ad,ae,af,ag,ah,ai,aj,ak,al,am,an,ao,ap,aq,ar,aZ,au,av,aw,ax,ay,az,a0,a1,a2,a3,a4)
 else
 if P0 .eql a5 12 then
 (Zzv b c d).bind fun a=>
 Xa (a.2.2.2.1,(d4 a).1,a.2.2.2.2.2,e,f,g,h,i,j,k,l,m,n,o,p,q,r,s,t,u,v,w,x,y,z,A,C,D,E,G,H,J,K,L,M,N,O,P,Q,R,T,U,V,W,X,Y,Z,S,a.1,a.2.1,a.2.2.1,ae,af,ag,ah,ai,aj,ak,al,am,an,ao,ap,aq,ar,aZ,au,av,aw,ax,ay,az,a0,a1,a2,a3,a4)
 else
 if P0 .eql a5 13 then
 (ZBS b c d).bind fun a=>
 Xa ((d6 a).1,(d6 a).2.1,a.2.2.2.2.2.2.2.2,e,f,g,h,i,j,k,l,m,n,o,p,q,r,s,t,u,v,w,x,y,z,A,C,D,E,G,H,J,K,L,M,N,O,P,Q,R,T,U,V,W,X,Y,Z,S,ab,ac,ad,a.1,a.2.1,a.2.2.1,a.2.2.2.1,(d4 a).1,(d4 a).2.1,ak,al,am,an,ao,ap,aq,ar,aZ,au,av,aw,ax,ay,az,a0,a1,a2,a3,a4)
 else
 if P0 .eql a5 14 then
 (ZEq b c d).bind fun a=>
 Xa (a.2.1,a.2.2.1,a.2.2.2,e,f,g,h,i,j,k,l,m,n,o,p,q,r,s,t,u,v,w,x,y,z,A,C,D,E,G,H,J,K,L,M,N,O,P,Q,R,T,U,V,W,X,Y,a.1,S,ab,ac,ad,ae,af,ag,ah,ai,aj,ak,al,am,an,ao,ap,aq,ar,aZ,au,av,aw,ax,ay,az,a0,a1,a2,a3,a4)
 else
 Xa (b,c,d,e,f,g,h,i,j,k,l,m,n,o,p,q,r,s,t,u,v,w,x,y,z,A,C,D,E,G,H,J,K,L,M,N,O,P,Q,R,T,U,V,W,X,Y,Z,S,ab,ac,ad,ae,af,ag,ah,ai,aj,ak,al,am,an,ao,ap,aq,ar,aZ,au,av,aw,ax,ay,az,a0,a1,a2,a3,a4)):=by kernel_rfl
noncomputable def F65:Fn:=⟨10,[4],[],[],0,[],[],Tryz.f65,[.c (.slice 1),.c (.slice 1)],[.c (.bool)],[]⟩
def ZKS:F65.S.Ok Tryz.prog 65:=F65.ok Tryz.func65
noncomputable def g65 (a b:LL):Option (Bool):=F65.S.g [.l a,.l b]
def ZCF (a b:LL):g65 a b =
 (Zy (Zeg a)<|
 Zy (Zeg b)<|
 Xa ((ByteArray.toList (bytesOf a) == ByteArray.toList (bytesOf b)))):=by kernel_rfl
noncomputable def F17:Fn:=⟨60,[2,3],[(5,[(0,.c (.slice 1)),(2,.box hs0),(4,.ptr 14 0),(5,.box hs0),(30,.c (.slice 1)),(31,.c (.int .i64)),(32,.c (.int .i64)),(14,.box [.slice 1,.int .i64,.bool])])],[],0,[],[],Tryz.f17,[.c (.slice 1)],[.agg hs0,.c (.int .i64)],[(63,F63.S),(32,F32.S),(64,F64.S),(14,F14.S),(65,F65.S)]⟩
def ZIO:F17.S.Ok Tryz.prog 17:=F17.ok Tryz.func17 ⟨ZoY,⟨ZF3,⟨ZJS,⟨ZIB,⟨ZKS,trivial⟩⟩⟩⟩⟩
noncomputable def g17 (a:LL):Option (Qt4):=F17.S.g [.l a]
noncomputable def Zp7 (k:Nat) (a:LL) (c d e f g h j m n o p:Int) (q:Bool) (r s t u v w x y z A C D E G H J K L M N:Int) (O:LL) (P Q R T U V:Int) (W:Bool) (X Y Z S:LL) (ab ac:Int) (ad ae af ag ah ai aj ak:LL) (al am:Int) (an ao ap aq ar aZ au av:LL) (aw:Bool) (ax:Int) (ay az a0 a1 a2 a3 a4 a5:LL) (a6 a7 a8 a9 ba bb bc bd be bf bg:Int) (bh:Bool) (bi bj bk bl bm bn bo bp bq br bs bt bu bv bw bx bz b0 b1 b2:Int) (b3:LL) (b4 b5 b6 b7 b8 b9:Int) (ca:Bool) (cb cc cd ce:LL) (cf cg:Int) (ch ci cj ck cl cm cn co:LL) (cp cq:Int) (cr cs ct cu cv cw cx cy:LL) (cz:Bool) (c0:Int) (c1 c2 c3 c4 c5 c6 c7 c8 c9:LL) (da db:Int) (dc:LL) (dd:Int) (de:Bool):Option (Qt4):=F17.lp [6] 0 r0 k [.l a,.i c,.i d,.i e,.i f,.i g,.i h,.i j,.i m,.i n,.i o,.i p,.b q,.i r,.i s,.i t,.i u,.i v,.i w,.i x,.i y,.i z,.i A,.i C,.i D,.i E,.i G,.i H,.i J,.i K,.i L,.i M,.i N,.l O,.i P,.i Q,.i R,.i T,.i U,.i V,.b W,.l X,.l Y,.l Z,.l S,.i ab,.i ac,.l ad,.l ae,.l af,.l ag,.l ah,.l ai,.l aj,.l ak,.i al,.i am,.l an,.l ao,.l ap,.l aq,.l ar,.l aZ,.l au,.l av,.b aw,.i ax,.l ay,.l az,.l a0,.l a1,.l a2,.l a3,.l a4,.l a5,.i a6,.i a7,.i a8,.i a9,.i ba,.i bb,.i bc,.i bd,.i be,.i bf,.i bg,.b bh,.i bi,.i bj,.i bk,.i bl,.i bm,.i bn,.i bo,.i bp,.i bq,.i br,.i bs,.i bt,.i bu,.i bv,.i bw,.i bx,.i bz,.i b0,.i b1,.i b2,.l b3,.i b4,.i b5,.i b6,.i b7,.i b8,.i b9,.b ca,.l cb,.l cc,.l cd,.l ce,.i cf,.i cg,.l ch,.l ci,.l cj,.l ck,.l cl,.l cm,.l cn,.l co,.i cp,.i cq,.l cr,.l cs,.l ct,.l cu,.l cv,.l cw,.l cx,.l cy,.b cz,.i c0,.l c1,.l c2,.l c3,.l c4,.l c5,.l c6,.l c7,.l c8,.l c9,.i da,.i db,.l dc,.i dd,.b de]
def Zns (k:Nat) (x0:LL) (x1 x2 x3 x4 x5 x6 x7 x8 x9 bi bj:Int) (bk:Bool) (bl bm bn bo bp bq br bs bt bu bv bw bx bz b0 b1 b2 b3 b4 b5:Int) (b6:LL) (b7 b8 b9 ca cb cc:Int) (cd:Bool) (ce cf cg ch:LL) (ci cj:Int) (ck cl cm cn co cp cq cr:LL) (cs ct:Int) (cu cv cw cx cy cz c0 c1:LL) (c2:Bool) (c3:Int) (c4 c5 c6 c7 c8 c9 da db:LL) (b c d e f g h i j l m:Int) (n:Bool) (o p q r s t u v w x y z A C D E G H J K:Int) (L:LL) (M N O P Q R:Int) (T:Bool) (U V W X:LL) (Y Z:Int) (S ab ac ad ae af ag ah:LL) (ai aj:Int) (ak al am an ao ap aq ar:LL) (aZ:Bool) (au:Int) (av aw ax ay az a0 a1 a2 a6:LL) (a7 a3:Int) (dc:LL) (dd:Int) (a8:Bool):Zp7 (k+1) x0 x1 x2 x3 x4 x5 x6 x7 x8 x9 bi bj bk bl bm bn bo bp bq br bs bt bu bv bw bx bz b0 b1 b2 b3 b4 b5 b6 b7 b8 b9 ca cb cc cd ce cf cg ch ci cj ck cl cm cn co cp cq cr cs ct cu cv cw cx cy cz c0 c1 c2 c3 c4 c5 c6 c7 c8 c9 da db b c d e f g h i j l m n o p q r s t u v w x y z A C D E G H J K L M N O P Q R T U V W X Y Z S ab ac ad ae af ag ah ai aj ak al am an ao ap aq ar aZ au av aw ax ay az a0 a1 a2 a6 a7 a3 dc dd a8 =
 (if P0 .lss a3 a7 then
 Zj a6 a3 [.int .i64] fun (a4:Int)=>
 (g64 dc dd a8 b c d e f g h i j l m n o p q r s t u v w x y z A C D E G H J K L M N O P Q R T U V W X Y Z S ab ac ad ae af ag ah ai aj ak al am an ao ap aq ar aZ au av aw ax ay az a0 a1 a2 a4).bind fun a=>
 Zp7 k x0 x1 x2 x3 x4 x5 x6 x7 x8 x9 bi bj bk bl bm bn bo bp bq br bs bt bu bv bw bx bz b0 b1 b2 b3 b4 b5 b6 b7 b8 b9 ca cb cc cd ce cf cg ch ci cj ck cl cm cn co cp cq cr cs ct cu cv cw cx cy cz c0 c1 c2 c3 c4 c5 c6 c7 c8 c9 da db a.2.2.2.1 (d4 a).1 (d4 a).2.1 (d6 a).1 (d6 a).2.1 (d8 a).1 (d8 a).2.1 (df a).1 (df a).2.1 (dg a).1 (dg a).2.1 (dh a).1 (dh a).2.1 (P2 a).1 (P2 a).2.1 (d2 (P2 a)).1 (d2 (P2 a)).2.1 (d4 (P2 a)).1 (d4 (P2 a)).2.1 (d6 (P2 a)).1 (d6 (P2 a)).2.1 (d8 (P2 a)).1 (d8 (P2 a)).2.1 (df (P2 a)).1 (df (P2 a)).2.1 (dg (P2 a)).1 (dg (P2 a)).2.1 (dh (P2 a)).1 (dh (P2 a)).2.1 (di a).1 (di a).2.1 (d2 (di a)).1 (d2 (di a)).2.1 (d4 (di a)).1 (d4 (di a)).2.1 (d6 (di a)).1 (d6 (di a)).2.1 (d8 (di a)).1 (d8 (di a)).2.1 (df (di a)).1 (df (di a)).2.1 (dg (di a)).1 (dg (di a)).2.1 (dh (di a)).1 (dh (di a)).2.1 (dj a).1 (dj a).2.1 (d2 (dj a)).1 (d2 (dj a)).2.1 (d4 (dj a)).1 (d4 (dj a)).2.1 (d6 (dj a)).1 (d6 (dj a)).2.1 (d8 (dj a)).1 (d8 (dj a)).2.1 (df (dj a)).1 (df (dj a)).2.1 (dg (dj a)).1 (dg (dj a)).2.1 (dh (dj a)).1 (dh (dj a)).2.1 (dk a).1 (dk a).2.1 (d2 (dk a)).1 (d2 (dk a)).2.1 (d4 (dk a)).1 (d4 (dk a)).2.1 (d6 (dk a)).1 (d6 (dk a)).2.1 (d8 (dk a)).1 (d8 (dk a)).2.1 (df (dk a)).1 (df (dk a)).2.1 (dg (dk a)) a6 a7 (P1 .add .i64 a3 1) a.1 a.2.1 a.2.2.1
 else
 if a8 then
 Xa (0,0,0,0,0,0,0,0,0,0,0,Xc,0,0,0,0,0,0,0,0,0,0,0,0,0,0,0,0,0,0,0,0,E0,0,0,0,0,0,0,Xc,E0,E0,E0,E0,0,0,E0,E0,E0,E0,E0,E0,E0,E0,0,0,E0,E0,E0,E0,E0,E0,E0,E0,Xc,0,E0,E0,E0,E0,E0,E0,E0,E0,14)
 else
 (g14 b c d e f g h i j l m n o p q r s t u v w x y z A C D E G H J K L M N O P Q R T U V W X Y Z S ab ac ad ae af ag ah ai aj ak al am an ao ap aq ar aZ au av aw ax ay az a0 a1 a2).bind fun a4=>
 if P0 .neq a4.2 0 then
 Xa (0,0,0,0,0,0,0,0,0,0,0,Xc,0,0,0,0,0,0,0,0,0,0,0,0,0,0,0,0,0,0,0,0,E0,0,0,0,0,0,0,Xc,E0,E0,E0,E0,0,0,E0,E0,E0,E0,E0,E0,E0,E0,0,0,E0,E0,E0,E0,E0,E0,E0,E0,Xc,0,E0,E0,E0,E0,E0,E0,E0,E0,14)
 else
 (g65 a4.1 x0).bind fun de=>
 if (!de) then
 Xa (0,0,0,0,0,0,0,0,0,0,0,Xc,0,0,0,0,0,0,0,0,0,0,0,0,0,0,0,0,0,0,0,0,E0,0,0,0,0,0,0,Xc,E0,E0,E0,E0,0,0,E0,E0,E0,E0,E0,E0,E0,E0,0,0,E0,E0,E0,E0,E0,E0,E0,E0,Xc,0,E0,E0,E0,E0,E0,E0,E0,E0,14)
 else
 Xa (b,c,d,e,f,g,h,i,j,l,m,n,o,p,q,r,s,t,u,v,w,x,y,z,A,C,D,E,G,H,J,K,L,M,N,O,P,Q,R,T,U,V,W,X,Y,Z,S,ab,ac,ad,ae,af,ag,ah,ai,aj,ak,al,am,an,ao,ap,aq,ar,aZ,au,av,aw,ax,ay,az,a0,a1,a2,0)):=by kernel_rfl
def ZAl (e:LL):g17 e =
 ((g63 e 0 Xc).bind fun a=>
 (g63 a.2.1 a.2.2.1 a.2.2.2).bind fun b=>
 (g63 b.2.1 b.2.2.1 b.2.2.2).bind fun c=>
 (g63 c.2.1 c.2.2.1 c.2.2.2).bind fun d=>
 (g32 a.1).bind fun f=>
 Zp7 Zr e 0 0 0 0 0 0 0 0 0 0 0 Xc 0 0 0 0 0 0 0 0 0 0 0 0 0 0 0 0 0 0 0 0 E0 0 0 0 0 0 0 Xc E0 E0 E0 E0 0 0 E0 E0 E0 E0 E0 E0 E0 E0 0 0 E0 E0 E0 E0 E0 E0 E0 E0 Xc 0 E0 E0 E0 E0 E0 E0 E0 E0 a.1 b.1 c.1 d.1 0 0 0 0 0 0 0 Xc 0 0 0 0 0 0 0 0 0 0 0 0 0 0 0 0 0 0 0 0 E0 0 0 0 0 0 0 Xc E0 E0 E0 E0 0 0 E0 E0 E0 E0 E0 E0 E0 E0 0 0 E0 E0 E0 E0 E0 E0 E0 E0 Xc 0 E0 E0 E0 E0 E0 E0 E0 E0 f.1 (Xh f.1:Int) 0 d.2.1 d.2.2.1 d.2.2.2):=by kernel_rfl
noncomputable def Zj7:Fn:=⟨54,[2],[(3,[(0,.box [.slice 1,.bool]),(3,.c (.int .i64)),(4,.c (.int .i64))])],[0],0,[],[],Tryz.f142,[.box [.slice 1,.bool]],[.c (.int .i64)],[]⟩
def Zc1:Zj7.S.Ok Tryz.prog 142:=Zj7.ok Tryz.func142
noncomputable def YZ (a:LL) (c:Bool):Option (Int×LL×Bool):=Zj7.S.g [.l a,.b c]
noncomputable def ZfU (k:Nat) (a:LL) (c:Bool) (d e:Int):Option (Int×LL×Bool):=Zj7.lp [0] 0 r0 k [.l a,.b c,.i d,.i e]
def ZbO (k:Nat) (a:LL) (c:Bool) (d b:Int):ZfU (k+1) a c d b =
 (if P0 .lss b 5 then
 if c then
 Xa (0,a,Xb)
 else
 if P0 .eql (Xh a:Int) 0 then
 Xa (0,a,Xb)
 else
 Zj a 0 [.int .u8] fun (e:Int)=>
 Zy ((0:Int)≤1)<|
 Zy ((1:Int)≤(Xh a:Int))<|
 Zy ((128:Int)≠0)<|
 Zy ((0:Int)≤(Xi .u64 (P1 .mul .i64 7 b)))<|
 if P0 .lss (Xi .i64 e) 128 then
 Xa ((P1 .add .i64 d (P1 .shl .i64 (P1 .rem .i64 (Xi .i64 e) 128) (Xi .u64 (P1 .mul .i64 7 b)))),(Uw (XJ 1) a),c)
 else
 ZfU k (Uw (XJ 1) a) c (P1 .add .i64 d (P1 .shl .i64 (P1 .rem .i64 (Xi .i64 e) 128) (Xi .u64 (P1 .mul .i64 7 b)))) (P1 .add .i64 b 1)
 else
 Xa (0,a,Xb)):=by kernel_rfl
def Zrs (a:LL) (b:Bool):YZ a b =
 (ZfU Zr a b 0 0):=by kernel_rfl
noncomputable def ZtG:Fn:=⟨14,[2],[],[0],0,[],[],Tryz.f189,[.box [.slice 1,.bool]],[.agg [.int .i64,.int .i64,.int .i64]],[(142,Zj7.S)]⟩
def Zpd:ZtG.S.Ok Tryz.prog 189:=ZtG.ok Tryz.func189 ⟨Zc1,trivial⟩
noncomputable def Zo8 (a:LL) (c:Bool):Option (Int×Int×Int×LL×Bool):=ZtG.S.g [.l a,.b c]
def Zkb (d:LL) (e:Bool):Zo8 d e =
 ((YZ d e).bind fun a=>
 (YZ a.2.1 a.2.2).bind fun b=>
 (YZ b.2.1 b.2.2).bind fun c=>
 Xa (a.1,b.1,c.1,c.2.1,c.2.2)):=by kernel_rfl
noncomputable def Zyi:Fn:=⟨42,[4],[],[0],0,[],[],Tryz.f224,[.box [.slice 1,.bool],.c (.int .i64)],[.c (.slice 1)],[]⟩
def Zxw:Zyi.S.Ok Tryz.prog 224:=Zyi.ok Tryz.func224
noncomputable def ZpV (a:LL) (c:Bool) (d:Int):Option (LL×LL×Bool):=Zyi.S.g [.l a,.b c,.i d]
def Zra (a:LL) (c:Bool) (b:Int):ZpV a c b =
 (if c then
 Xa (E0,a,Xb)
 else
 if P0 .lss b 0 then
 Xa (E0,a,Xb)
 else
 if P0 .gtr b (Xh a:Int) then
 Xa (E0,a,Xb)
 else
 Zy ((0:Int)≤b)<|
 Zy ((b:Int)≤(Xh a:Int))<|
 Zy ((0:Int)≤b)<|
 Zy ((b:Int)≤(Xh a:Int))<|
 Xa ((List.take (XJ b) a),(Uw (XJ b) a),c)):=by kernel_rfl
noncomputable def ZyU:Fn:=⟨41,[2],[(3,[(0,.box [.slice 1,.bool]),(3,.c (.int .u64)),(4,.c (.int .i64))])],[0],0,[],[],Tryz.f222,[.box [.slice 1,.bool]],[.c (.int .i64)],[(224,Zyi.S)]⟩
def ZG9:ZyU.S.Ok Tryz.prog 222:=ZyU.ok Tryz.func222 ⟨Zxw,trivial⟩
noncomputable def ZHR (a:LL) (c:Bool):Option (Int×LL×Bool):=ZyU.S.g [.l a,.b c]
noncomputable def ZiK (k:Nat) (a:LL) (c:Bool) (d e:Int):Option (Int×LL×Bool):=ZyU.lp [0] 0 r0 k [.l a,.b c,.i d,.i e]
def WT (k:Nat) (d:LL) (e:Bool) (b c:Int):ZiK (k+1) d e b c =
 (if P0 .lss c 10 then
 (ZpV d e 1).bind fun a=>
 if a.2.2 then
 Xa (0,a.2.1,a.2.2)
 else
 Zj a.1 0 [.int .u8] fun (f:Int)=>
 Zy ((128:Int)≠0)<|
 Zy ((0:Int)≤(Xi .u64 (P1 .mul .i64 7 c)))<|
 Zj a.1 0 [.int .u8] fun (g:Int)=>
 if P0 .lss g 128 then
 Zy ((2:Int)≠0)<|
 if (P0 .eql (P1 .rem .u64 (P1 .add .u64 b (P1 .shl .u64 (Xi .u64 (P1 .rem .u8 f 128)) (Xi .u64 (P1 .mul .i64 7 c)))) 2) 1) then
 Zy ((0:Int)≤1)<|
 Xa ((Xi .i64 (P1 .xor .u64 18446744073709551615 (P1 .shr .u64 (P1 .add .u64 b (P1 .shl .u64 (Xi .u64 (P1 .rem .u8 f 128)) (Xi .u64 (P1 .mul .i64 7 c)))) 1))),a.2.1,a.2.2)
 else
 Zy ((0:Int)≤1)<|
 Xa ((Xi .i64 (P1 .shr .u64 (P1 .add .u64 b (P1 .shl .u64 (Xi .u64 (P1 .rem .u8 f 128)) (Xi .u64 (P1 .mul .i64 7 c)))) 1)),a.2.1,a.2.2)
 else
 ZiK k a.2.1 a.2.2 (P1 .add .u64 b (P1 .shl .u64 (Xi .u64 (P1 .rem .u8 f 128)) (Xi .u64 (P1 .mul .i64 7 c)))) (P1 .add .i64 c 1)
 else
 Zy ((2:Int)≠0)<|
 if P0 .eql (P1 .rem .u64 b 2) 1 then
 Zy ((0:Int)≤1)<|
 Xa ((Xi .i64 (P1 .xor .u64 18446744073709551615 (P1 .shr .u64 b 1))),d,e)
 else
 Zy ((0:Int)≤1)<|
 Xa ((Xi .i64 (P1 .shr .u64 b 1)),d,e)):=by kernel_rfl
def ZvG (a:LL) (b:Bool):ZHR a b =
 (ZiK Zr a b 0 0):=by kernel_rfl
noncomputable def ZAI:Fn:=⟨38,[2],[(3,[(0,.box [.slice 1,.bool]),(2,.box hs13),(3,.box hs13),(4,.c (.int .i64))])],[0],0,[],[],Tryz.f190,[.box [.slice 1,.bool]],[.agg hs13],[(222,ZyU.S)]⟩
def ZGj:ZAI.S.Ok Tryz.prog 190:=ZAI.ok Tryz.func190 ⟨ZG9,trivial⟩
noncomputable def ZFe (a:LL) (c:Bool):Option (Qt24):=ZAI.S.g [.l a,.b c]
noncomputable def VL (k:Nat) (a:LL) (c:Bool) (d e f g h j m n o p q r s t u v w x y z A C D E G:Int):Option (Qt24):=ZAI.lp [0] 0 r0 k [.l a,.b c,.i d,.i e,.i f,.i g,.i h,.i j,.i m,.i n,.i o,.i p,.i q,.i r,.i s,.i t,.i u,.i v,.i w,.i x,.i y,.i z,.i A,.i C,.i D,.i E,.i G]
def Yj (k:Nat) (C:LL) (D:Bool) (c d e f g h i j l m n o p q r s t u v w x y z A b:Int):VL (k+1) C D c d e f g h i j l m n o p q r s t u v w x y z A b =
 (if P0 .lss b 12 then
 (ZHR C D).bind fun a=>
 if P0 .eql b 0 then
 VL k a.2.1 a.2.2 c d e f g h i j l m n o a.1 q r s t u v w x y z A (P1 .add .i64 b 1)
 else
 if P0 .eql b 1 then
 VL k a.2.1 a.2.2 c d e f g h i j l m n o p a.1 r s t u v w x y z A (P1 .add .i64 b 1)
 else
 if P0 .eql b 2 then
 VL k a.2.1 a.2.2 c d e f g h i j l m n o p q a.1 s t u v w x y z A (P1 .add .i64 b 1)
 else
 if P0 .eql b 3 then
 VL k a.2.1 a.2.2 c d e f g h i j l m n o p q r a.1 t u v w x y z A (P1 .add .i64 b 1)
 else
 if P0 .eql b 4 then
 VL k a.2.1 a.2.2 c d e f g h i j l m n o p q r s a.1 u v w x y z A (P1 .add .i64 b 1)
 else
 if P0 .eql b 5 then
 VL k a.2.1 a.2.2 c d e f g h i j l m n o p q r s t a.1 v w x y z A (P1 .add .i64 b 1)
 else
 if P0 .eql b 6 then
 VL k a.2.1 a.2.2 c d e f g h i j l m n o p q r s t u a.1 w x y z A (P1 .add .i64 b 1)
 else
 if P0 .eql b 7 then
 VL k a.2.1 a.2.2 c d e f g h i j l m n o p q r s t u v a.1 x y z A (P1 .add .i64 b 1)
 else
 if P0 .eql b 8 then
 VL k a.2.1 a.2.2 c d e f g h i j l m n o p q r s t u v w a.1 y z A (P1 .add .i64 b 1)
 else
 if P0 .eql b 9 then
 VL k a.2.1 a.2.2 c d e f g h i j l m n o p q r s t u v w x a.1 z A (P1 .add .i64 b 1)
 else
 if P0 .eql b 10 then
 VL k a.2.1 a.2.2 c d e f g h i j l m n o p q r s t u v w x y a.1 A (P1 .add .i64 b 1)
 else
 Zy ((11:Int)≤b)<|
 Zy ((b:Int)≤11)<|
 VL k a.2.1 a.2.2 c d e f g h i j l m n o p q r s t u v w x y z a.1 (P1 .add .i64 b 1)
 else
 Xa (p,q,r,s,t,u,v,w,x,y,z,A,C,D)):=by kernel_rfl
def Zus (a:LL) (b:Bool):ZFe a b =
 (VL Zr a b 0 0 0 0 0 0 0 0 0 0 0 0 0 0 0 0 0 0 0 0 0 0 0 0 0):=by kernel_rfl
noncomputable def ZCr:Fn:=⟨67,[2,3],[(5,[(0,.c (.slice 1)),(2,.box hs27),(4,.c (.int .i64)),(5,.c (.int .i64))])],[],0,[],[],Tryz.f236,[.c (.slice 1)],[.agg hs27,.c (.int .i64)],[(130,ZtM.S)]⟩
def ZGH:ZCr.S.Ok Tryz.prog 236:=ZCr.ok Tryz.func236 ⟨Zpg,trivial⟩
noncomputable def ZyM (a:LL):Option (Qt32):=ZCr.S.g [.l a]
noncomputable def Zp4 (k:Nat) (a:LL) (c d e f g h:Int) (j:Bool) (m n:Int):Option (Qt32):=ZCr.lp [1,0] 0 r0 k [.l a,.i c,.i d,.i e,.i f,.i g,.i h,.b j,.i m,.i n]
def VT (k:Nat) (a:LL) (e f g h i j:Int) (l:Bool) (c b:Int):Zp4 (k+1) a e f g h i j l c b =
 (if P0 .lss b 5 then
 Zj a (P1 .add .i64 5 b) [.int .u8] fun (d:Int)=>
 Zy ((0:Int)≤(Xi .u64 (P1 .mul .i64 8 b)))<|
 Zp4 k a e f g h i j l (P1 .add .i64 c (P1 .shl .i64 (Xi .i64 d) (Xi .u64 (P1 .mul .i64 8 b)))) (P1 .add .i64 b 1)
 else
 Zj a 0 [.int .u8] fun (d:Int)=>
 Zj a 1 [.int .u8] fun (m:Int)=>
 Zj a 2 [.int .u8] fun (n:Int)=>
 Zy ((8:Int)≠0)<|
 Zj a 3 [.int .u8] fun (o:Int)=>
 Zj a 4 [.int .u8] fun (p:Int)=>
 Zj a 2 [.int .u8] fun (q:Int)=>
 Zj a 2 [.int .u8] fun (r:Int)=>
 if P0 .geq (Xi .i64 r) 16 then
 Xa (0,0,0,0,0,0,Xc,14)
 else
 (ZxA (Xi .i64 d) c (Xi .i64 m) (P1 .rem .i64 (Xi .i64 n) 8) (Xi .i64 o) (Xi .i64 p) (P0 .geq (Xi .i64 q) 8)).bind fun s=>
 if (!s) then
 Xa (0,0,0,0,0,0,Xc,14)
 else
 Xa ((Xi .i64 d),c,(Xi .i64 m),(P1 .rem .i64 (Xi .i64 n) 8),(Xi .i64 o),(Xi .i64 p),(P0 .geq (Xi .i64 q) 8),0)):=by kernel_rfl
def Zul (a:LL):ZyM a =
 (if P0 .neq (Xh a:Int) 10 then
 Xa (0,0,0,0,0,0,Xc,14)
 else
 Zp4 Zr a 0 0 0 0 0 0 Xc 0 0):=by kernel_rfl
noncomputable def F67:Fn:=⟨10,[4],[],[],0,[],[],Tryz.f67,[.c (.slice 1),.c (.slice 1)],[.c (.bool)],[]⟩
def ZIW:F67.S.Ok Tryz.prog 67:=F67.ok Tryz.func67
noncomputable def g67 (a b:LL):Option (Bool):=F67.S.g [.l a,.l b]
def Zy8 (a b:LL):g67 a b =
 (Zy (Zeg a)<|
 Zy (Zeg b)<|
 Xa ((ByteArray.toList (bytesOf a) == ByteArray.toList (bytesOf b)))):=by kernel_rfl
noncomputable def ZAK:Fn:=⟨72,[2,3],[(5,[(0,.c (.slice 1)),(2,.box hs16),(4,.ptr 14 0),(5,.box hs14),(6,.c (.int .i64)),(7,.c (.int .i64)),(14,.box [.slice 1,.bool])])],[],0,[],[],Tryz.f223,[.c (.slice 1)],[.agg hs16,.c (.int .i64)],[(189,ZtG.S),(142,Zj7.S),(224,Zyi.S),(236,ZCr.S),(126,Zx2.S),(67,F67.S)]⟩
def ZER:ZAK.S.Ok Tryz.prog 223:=ZAK.ok Tryz.func223 ⟨Zpd,⟨Zc1,⟨Zxw,⟨ZGH,⟨Zy2,⟨ZIW,trivial⟩⟩⟩⟩⟩⟩
noncomputable def ZFU (a:LL):Option (Qt28):=ZAK.S.g [.l a]
noncomputable def Zfq (k:Nat) (a:LL) (c d e:Int) (f:LL) (g h j m n o:Int) (p:Bool) (q r s:Int) (t:LL) (u v w x y z:Int) (A:Bool) (C D:Int) (E:LL) (G:Bool):Option (Qt28):=ZAK.lp [3] 0 r0 k [.l a,.i c,.i d,.i e,.l f,.i g,.i h,.i j,.i m,.i n,.i o,.b p,.i q,.i r,.i s,.l t,.i u,.i v,.i w,.i x,.i y,.i z,.b A,.i C,.i D,.l E,.b G]
def WO (k:Nat) (i:LL) (o p q:Int) (r:LL) (s t u v w x:Int) (y:Bool) (d e f:Int) (c:LL) (z A C D E G:Int) (H:Bool) (l m:Int) (j:LL) (g:Bool):Zfq (k+1) i o p q r s t u v w x y d e f c z A C D E G H l m j g =
 (if P0 .lss m l then
 if (!g) then
 (Zo8 j g).bind fun b=>
 Zy (Z6 c (E0++[[I b.1,I b.2.1,I b.2.2.1]]) 24)<|
 Zfq k i o p q r s t u v w x y d e f (c++(E0++[[I b.1,I b.2.1,I b.2.2.1]])) z A C D E G H l (P1 .add .i64 m 1) b.2.2.2.1 b.2.2.2.2
 else
 (ZpV j g 10).bind fun b=>
 (ZyM b.1).bind fun a=>
 (Zx1 d e f c a.1 a.2.1 a.2.2.1 a.2.2.2.1 (d4 a).1 (d4 a).2.1 (d6 a).1).bind fun h=>
 if b.2.2 then
 Xa (0,0,0,E0,0,0,0,0,0,0,Xc,14)
 else
 if P0 .neq a.2.2.2.2.2.2.2 0 then
 Xa (0,0,0,E0,0,0,0,0,0,0,Xc,14)
 else
 if P0 .neq h.2 0 then
 Xa (0,0,0,E0,0,0,0,0,0,0,Xc,14)
 else
 (g67 h.1 i).bind fun n=>
 if (!n) then
 Xa (0,0,0,E0,0,0,0,0,0,0,Xc,14)
 else
 Xa (d,e,f,c,a.1,a.2.1,a.2.2.1,a.2.2.2.1,(d4 a).1,(d4 a).2.1,(d6 a).1,0)
 else
 (ZpV j g 10).bind fun b=>
 (ZyM b.1).bind fun a=>
 (Zx1 d e f c a.1 a.2.1 a.2.2.1 a.2.2.2.1 (d4 a).1 (d4 a).2.1 (d6 a).1).bind fun h=>
 if b.2.2 then
 Xa (0,0,0,E0,0,0,0,0,0,0,Xc,14)
 else
 if P0 .neq a.2.2.2.2.2.2.2 0 then
 Xa (0,0,0,E0,0,0,0,0,0,0,Xc,14)
 else
 if P0 .neq h.2 0 then
 Xa (0,0,0,E0,0,0,0,0,0,0,Xc,14)
 else
 (g67 h.1 i).bind fun n=>
 if (!n) then
 Xa (0,0,0,E0,0,0,0,0,0,0,Xc,14)
 else
 Xa (d,e,f,c,a.1,a.2.1,a.2.2.1,a.2.2.2.1,(d4 a).1,(d4 a).2.1,(d6 a).1,0)):=by kernel_rfl
def ZpO (b:LL):ZFU b =
 ((Zo8 b Xc).bind fun a=>
 (YZ a.2.2.2.1 a.2.2.2.2).bind fun c=>
 Zfq Zr b 0 0 0 E0 0 0 0 0 0 0 Xc a.1 a.2.1 a.2.2.1 E0 0 0 0 0 0 0 Xc c.1 0 c.2.1 c.2.2):=by kernel_rfl
noncomputable def Zyk:Fn:=⟨24,[2],[],[0],0,[],[],Tryz.f191,[.box [.slice 1,.bool]],[.agg hs16],[(142,Zj7.S),(224,Zyi.S),(223,ZAK.S)]⟩
def Zuh:Zyk.S.Ok Tryz.prog 191:=Zyk.ok Tryz.func191 ⟨Zc1,⟨Zxw,⟨ZER,trivial⟩⟩⟩
noncomputable def Zyz (a:LL) (c:Bool):Option (Qt26):=Zyk.S.g [.l a,.b c]
def Zw0 (d:LL) (e:Bool):Zyz d e =
 ((YZ d e).bind fun b=>
 if P0 .eql b.1 0 then
 Xa (0,0,0,E0,0,0,0,0,0,0,Xc,b.2.1,b.2.2)
 else
 (ZpV b.2.1 b.2.2 b.1).bind fun c=>
 (ZFU c.1).bind fun a=>
 if P0 .neq a.2.2.2.2.2.2.2.2.2.2.2 0 then
 Xa (a.1,a.2.1,a.2.2.1,a.2.2.2.1,(d4 a).1,(d4 a).2.1,(d6 a).1,(d6 a).2.1,(d8 a).1,(d8 a).2.1,(df a).1,c.2.1,Xb)
 else
 Xa (a.1,a.2.1,a.2.2.1,a.2.2.2.1,(d4 a).1,(d4 a).2.1,(d6 a).1,(d6 a).2.1,(d8 a).1,(d8 a).2.1,(df a).1,c.2.1,c.2.2)):=by kernel_rfl
noncomputable def ZC3:Fn:=⟨20,[2],[],[0],0,[],[],Tryz.f143,[.box [.slice 1,.bool]],[.agg hs6],[(189,ZtG.S),(190,ZAI.S),(142,Zj7.S),(191,Zyk.S)]⟩
def ZC6:ZC3.S.Ok Tryz.prog 143:=ZC3.ok Tryz.func143 ⟨Zpd,⟨ZGj,⟨Zc1,⟨Zuh,trivial⟩⟩⟩⟩
noncomputable def Zz8 (a:LL) (c:Bool):Option (Qt9):=ZC3.S.g [.l a,.b c]
def Zwo (f:LL) (g:Bool):Zz8 f g =
 ((Zo8 f g).bind fun c=>
 (ZFe c.2.2.2.1 c.2.2.2.2).bind fun a=>
 (YZ (dg a).1 (dg a).2).bind fun d=>
 (YZ d.2.1 d.2.2).bind fun e=>
 (Zyz e.2.1 e.2.2).bind fun b=>
 Xa (c.1,c.2.1,c.2.2.1,a.1,a.2.1,a.2.2.1,a.2.2.2.1,(d4 a).1,(d4 a).2.1,(d6 a).1,(d6 a).2.1,(d8 a).1,(d8 a).2.1,(df a).1,(df a).2.1,d.1,e.1,b.1,b.2.1,b.2.2.1,b.2.2.2.1,(d4 b).1,(d4 b).2.1,(d6 b).1,(d6 b).2.1,(d8 b).1,(d8 b).2.1,(df b).1,(df b).2.1,(dg b))):=by kernel_rfl
noncomputable def ZDm:Fn:=⟨12,[4],[],[0],0,[],[],Tryz.f144,[.box [.slice 1,.bool],.agg hs0],[.agg hs0],[(142,Zj7.S),(189,ZtG.S)]⟩
def ZIg:ZDm.S.Ok Tryz.prog 144:=ZDm.ok Tryz.func144 ⟨Zc1,⟨Zpd,trivial⟩⟩
noncomputable def ZoH (a:LL) (c:Bool) (d e f h j k m n o p q:Int) (r:Bool) (s t u v w x y z A C D E G H J K L M N O:Int) (P:LL) (Q R T U V W:Int) (X:Bool) (Y Z aa ab:LL) (ac ad:Int) (ae af ag ah ai aj ak al:LL) (am an:Int) (ao ap aq ar aZ au av aw:LL) (ax:Bool) (ay:Int) (az a0 a1 a2 a3 a4 a5 a6:LL):Option (Qt2):=ZDm.S.g [.l a,.b c,.i d,.i e,.i f,.i h,.i j,.i k,.i m,.i n,.i o,.i p,.i q,.b r,.i s,.i t,.i u,.i v,.i w,.i x,.i y,.i z,.i A,.i C,.i D,.i E,.i G,.i H,.i J,.i K,.i L,.i M,.i N,.i O,.l P,.i Q,.i R,.i T,.i U,.i V,.i W,.b X,.l Y,.l Z,.l aa,.l ab,.i ac,.i ad,.l ae,.l af,.l ag,.l ah,.l ai,.l aj,.l ak,.l al,.i am,.i an,.l ao,.l ap,.l aq,.l ar,.l aZ,.l au,.l av,.l aw,.b ax,.i ay,.l az,.l a0,.l a1,.l a2,.l a3,.l a4,.l a5,.l a6]
def Zw9 (c:LL) (d:Bool) (e f g h i x7 j x9 a3 a4 k:Int) (l:Bool) (m n o p q r s t u v w x y z A C D E G H:Int) (J:LL) (K L M N O P:Int) (Q:Bool) (R T U V:LL) (W X:Int) (Y Z S ab ac ad ae af:LL) (ag ah:Int) (ai aj ak al am an ao ap:LL) (aq:Bool) (ar:Int) (aZ au av aw ax ay az a0:LL):ZoH c d e f g h i x7 j x9 a3 a4 k l m n o p q r s t u v w x y z A C D E G H J K L M N O P Q R T U V W X Y Z S ab ac ad ae af ag ah ai aj ak al am an ao ap aq ar aZ au av aw ax ay az a0 =
 ((YZ c d).bind fun b=>
 (Zo8 b.2.1 b.2.2).bind fun a=>
 Xa (e,f,g,h,i,b.1,j,a.1,a.2.1,a.2.2.1,k,l,m,n,o,p,q,r,s,t,u,v,w,x,y,z,A,C,D,E,G,H,J,K,L,M,N,O,P,Q,R,T,U,V,W,X,Y,Z,S,ab,ac,ad,ae,af,ag,ah,ai,aj,ak,al,am,an,ao,ap,aq,ar,aZ,au,av,aw,ax,ay,az,a0,a.2.2.2.1,a.2.2.2.2)):=by kernel_rfl
noncomputable def ZzQ:Fn:=⟨26,[2],[(4,[(0,.box [.slice 1,.bool]),(3,.c (.own Xc 33)),(4,.c (.int .i64)),(5,.c (.int .i64))])],[0],0,[],[],Tryz.f145,[.box [.slice 1,.bool]],[.c (.own Xc 33)],[(142,Zj7.S),(191,Zyk.S)]⟩
def ZE3:ZzQ.S.Ok Tryz.prog 145:=ZzQ.ok Tryz.func145 ⟨Zc1,⟨Zuh,trivial⟩⟩
noncomputable def Zx3 (a:LL) (c:Bool):Option (LL×LL×Bool):=ZzQ.S.g [.l a,.b c]
noncomputable def ZlW (k:Nat) (a:LL) (c:Bool) (d:LL) (e f:Int):Option (LL×LL×Bool):=ZzQ.lp [2] 0 r0 k [.l a,.b c,.l d,.i e,.i f]
def ZjP (k:Nat) (d:LL) (b:Bool) (c:LL) (e f:Int):ZlW (k+1) d b c e f =
 (if P0 .lss f e then
 if (!b) then
 (Zyz d b).bind fun a=>
 Zy (Z6 c (E0++[[I a.1,I a.2.1,I a.2.2.1,AV.slice Xc 3 a.2.2.2.1,I (d4 a).1,I (d4 a).2.1,I (d6 a).1,I (d6 a).2.1,I (d8 a).1,I (d8 a).2.1,B (df a).1]]) 104)<|
 ZlW k (df a).2.1 (dg a) (c++(E0++[[I a.1,I a.2.1,I a.2.2.1,AV.slice Xc 3 a.2.2.2.1,I (d4 a).1,I (d4 a).2.1,I (d6 a).1,I (d6 a).2.1,I (d8 a).1,I (d8 a).2.1,B (df a).1]])) e (P1 .add .i64 f 1)
 else
 Xa (c,d,b)
 else
 Xa (c,d,b)):=by kernel_rfl
def ZuJ (b:LL) (c:Bool):Zx3 b c =
 ((YZ b c).bind fun a=>
 ZlW Zr a.2.1 a.2.2 E0 a.1 0):=by kernel_rfl
noncomputable def Zx9:Fn:=⟨26,[2],[(4,[(0,.box [.slice 1,.bool]),(3,.c (.own Xc 25)),(4,.c (.int .i64)),(5,.c (.int .i64))])],[0],0,[],[],Tryz.f146,[.box [.slice 1,.bool]],[.c (.own Xc 25)],[(142,Zj7.S),(189,ZtG.S)]⟩
def ZAk:Zx9.S.Ok Tryz.prog 146:=Zx9.ok Tryz.func146 ⟨Zc1,⟨Zpd,trivial⟩⟩
noncomputable def Zx5 (a:LL) (c:Bool):Option (LL×LL×Bool):=Zx9.S.g [.l a,.b c]
noncomputable def Zl6 (k:Nat) (a:LL) (c:Bool) (d:LL) (e f:Int):Option (LL×LL×Bool):=Zx9.lp [2] 0 r0 k [.l a,.b c,.l d,.i e,.i f]
def ZhO (k:Nat) (d:LL) (b:Bool) (c:LL) (e f:Int):Zl6 (k+1) d b c e f =
 (if P0 .lss f e then
 if (!b) then
 (Zo8 d b).bind fun a=>
 Zy (Z6 c (E0++[[I a.1,I a.2.1,I a.2.2.1]]) 24)<|
 Zl6 k a.2.2.2.1 a.2.2.2.2 (c++(E0++[[I a.1,I a.2.1,I a.2.2.1]])) e (P1 .add .i64 f 1)
 else
 Xa (c,d,b)
 else
 Xa (c,d,b)):=by kernel_rfl
def ZuI (b:LL) (c:Bool):Zx5 b c =
 ((YZ b c).bind fun a=>
 Zl6 Zr a.2.1 a.2.2 E0 a.1 0):=by kernel_rfl
noncomputable def Zyq:Fn:=⟨26,[2],[(4,[(0,.box [.slice 1,.bool]),(3,.c (.own Xc 3)),(4,.c (.int .i64)),(5,.c (.int .i64))])],[0],0,[],[],Tryz.f147,[.box [.slice 1,.bool]],[.c (.own Xc 3)],[(142,Zj7.S)]⟩
def ZzC:Zyq.S.Ok Tryz.prog 147:=Zyq.ok Tryz.func147 ⟨Zc1,trivial⟩
noncomputable def Zrw (a:LL) (c:Bool):Option (LL×LL×Bool):=Zyq.S.g [.l a,.b c]
noncomputable def Zm9 (k:Nat) (a:LL) (c:Bool) (d:LL) (e f:Int):Option (LL×LL×Bool):=Zyq.lp [2] 0 r0 k [.l a,.b c,.l d,.i e,.i f]
def Zjl (k:Nat) (c:LL) (a:Bool) (b:LL) (e f:Int):Zm9 (k+1) c a b e f =
 (if P0 .lss f e then
 if (!a) then
 (YZ c a).bind fun d=>
 Zy (Z6 b (E0++[[I d.1]]) 8)<|
 Zm9 k d.2.1 d.2.2 (b++(E0++[[I d.1]])) e (P1 .add .i64 f 1)
 else
 Xa (b,c,a)
 else
 Xa (b,c,a)):=by kernel_rfl
def ZuE (b:LL) (c:Bool):Zrw b c =
 ((YZ b c).bind fun a=>
 Zm9 Zr a.2.1 a.2.2 E0 a.1 0):=by kernel_rfl
noncomputable def Zy5:Fn:=⟨14,[2],[],[0],0,[],[],Tryz.f149,[.box [.slice 1,.bool]],[.agg [.int .i64,.slice 1,.slice 1]],[(142,Zj7.S),(147,Zyq.S)]⟩
def Zz7:Zy5.S.Ok Tryz.prog 149:=Zy5.ok Tryz.func149 ⟨Zc1,⟨ZzC,trivial⟩⟩
noncomputable def Zym (a:LL) (c:Bool):Option (Int×LL×LL×LL×Bool):=Zy5.S.g [.l a,.b c]
def Zur (d:LL) (e:Bool):Zym d e =
 ((YZ d e).bind fun a=>
 (Zrw a.2.1 a.2.2).bind fun b=>
 (Zrw b.2.1 b.2.2).bind fun c=>
 Xa (a.1,b.1,c.1,c.2.1,c.2.2)):=by kernel_rfl
noncomputable def Zru:Fn:=⟨164,[2],[(4,[(0,.box [.slice 1,.bool]),(2,.box hs30),(3,.box hs30),(4,.c (.int .i64)),(5,.c (.int .i64))]),(13,[(0,.box [.slice 1,.bool]),(2,.box hs30),(3,.box hs30),(4,.c (.int .i64)),(8,.c (.int .i64))]),(19,[(0,.box [.slice 1,.bool]),(2,.box hs30),(3,.box hs30),(4,.c (.int .i64)),(10,.c (.int .i64))]),(27,[(0,.box [.slice 1,.bool]),(2,.box hs30),(3,.box hs30),(4,.c (.int .i64)),(13,.c (.int .i64))]),(35,[(0,.box [.slice 1,.bool]),(2,.box hs30),(3,.box hs30),(4,.c (.int .i64)),(16,.c (.int .i64))])],[0],0,[],[],Tryz.f150,[.box [.slice 1,.bool]],[.agg hs30],[(142,Zj7.S),(191,Zyk.S),(189,ZtG.S),(143,ZC3.S),(146,Zx9.S)]⟩
def ZBv:Zru.S.Ok Tryz.prog 150:=Zru.ok Tryz.func150 ⟨Zc1,⟨Zuh,⟨Zpd,⟨ZC6,⟨ZAk,trivial⟩⟩⟩⟩⟩
noncomputable def Zyn (a:LL) (c:Bool):Option (Qt35):=Zru.S.g [.l a,.b c]
noncomputable def Zf5 (k:Nat) (a:LL) (c:Bool) (d e f g h j m n o p q r:LL) (s t:Int):Option (Qt35):=Zru.lp [3,1,3,1,3,1,3,1,2] 0 r0 k [.l a,.b c,.l d,.l e,.l f,.l g,.l h,.l j,.l m,.l n,.l o,.l p,.l q,.l r,.i s,.i t]
def Zh6 (k:Nat) (e:LL) (d:Bool) (n o p q r s f g h i c t:LL) (l m:Int):Zf5 (k+1) e d n o p q r s f g h i c t l m =
 (if P0 .lss m l then
 if (!d) then
 (YZ e d).bind fun b=>
 (YZ b.2.1 b.2.2).bind fun j=>
 (Zyz j.2.1 j.2.2).bind fun a=>
 Zy (Z6 E0 c 120)<|
 Zy (Z6 c (E0++[[I b.1,I j.1,I a.1,I a.2.1,I a.2.2.1,AV.slice Xc 3 a.2.2.2.1,I (d4 a).1,I (d4 a).2.1,I (d6 a).1,I (d6 a).2.1,I (d8 a).1,I (d8 a).2.1,B (df a).1]]) 120)<|
 Zf5 k (df a).2.1 (dg a) n o p q r s f g h i (c++(E0++[[I b.1,I j.1,I a.1,I a.2.1,I a.2.2.1,AV.slice Xc 3 a.2.2.2.1,I (d4 a).1,I (d4 a).2.1,I (d6 a).1,I (d6 a).2.1,I (d8 a).1,I (d8 a).2.1,B (df a).1]])) t l (P1 .add .i64 m 1)
 else
 (Zx5 e d).bind fun b=>
 Xa (f,g,h,i,c,b.1,b.2.1,b.2.2)
 else
 (Zx5 e d).bind fun b=>
 Xa (f,g,h,i,c,b.1,b.2.1,b.2.2)):=by kernel_rfl
noncomputable def Zga (k:Nat) (a:LL) (c:Bool) (d e f g h j m n o p q r:LL) (s t:Int):Option (Qt35):=Zru.lp [3,1,3,1,3,1,2] 0 r0 k [.l a,.b c,.l d,.l e,.l f,.l g,.l h,.l j,.l m,.l n,.l o,.l p,.l q,.l r,.i s,.i t]
def Zjw (k:Nat) (d:LL) (c:Bool) (e f g h i j l m n b o p:LL) (r s:Int):Zga (k+1) d c e f g h i j l m n b o p r s =
 (if P0 .lss s r then
 if (!c) then
 (YZ d c).bind fun a=>
 (YZ a.2.1 a.2.2).bind fun q=>
 Zy (Z6 E0 b 16)<|
 Zy (Z6 b (E0++[[I a.1,I q.1]]) 16)<|
 Zga k q.2.1 q.2.2 e f g h i j l m n (b++(E0++[[I a.1,I q.1]])) o p r (P1 .add .i64 s 1)
 else
 (YZ d c).bind fun a=>
 Zf5 Zr a.2.1 a.2.2 e f g h i j l m n b o p a.1 0
 else
 (YZ d c).bind fun a=>
 Zf5 Zr a.2.1 a.2.2 e f g h i j l m n b o p a.1 0):=by kernel_rfl
noncomputable def ZfB (k:Nat) (a:LL) (c:Bool) (d e f g h j m n o p q r:LL) (s t:Int):Option (Qt35):=Zru.lp [3,1,3,1,2] 0 r0 k [.l a,.b c,.l d,.l e,.l f,.l g,.l h,.l j,.l m,.l n,.l o,.l p,.l q,.l r,.i s,.i t]
def Zi7 (k:Nat) (e:LL) (d:Bool) (f g h i j l m n c o p q:LL) (r s:Int):ZfB (k+1) e d f g h i j l m n c o p q r s =
 (if P0 .lss s r then
 if (!d) then
 (YZ e d).bind fun a=>
 (Zo8 a.2.1 a.2.2).bind fun b=>
 Zy (Z6 E0 c 32)<|
 Zy (Z6 c (E0++[[I a.1,I b.1,I b.2.1,I b.2.2.1]]) 32)<|
 ZfB k b.2.2.2.1 b.2.2.2.2 f g h i j l m n (c++(E0++[[I a.1,I b.1,I b.2.1,I b.2.2.1]])) o p q r (P1 .add .i64 s 1)
 else
 (YZ e d).bind fun a=>
 Zga Zr a.2.1 a.2.2 f g h i j l m n c o p q a.1 0
 else
 (YZ e d).bind fun a=>
 Zga Zr a.2.1 a.2.2 f g h i j l m n c o p q a.1 0):=by kernel_rfl
noncomputable def ZfP (k:Nat) (a:LL) (c:Bool) (d e f g h j m n o p q r:LL) (s t:Int):Option (Qt35):=Zru.lp [3,1,2] 0 r0 k [.l a,.b c,.l d,.l e,.l f,.l g,.l h,.l j,.l m,.l n,.l o,.l p,.l q,.l r,.i s,.i t]
def Zip (k:Nat) (d:LL) (c:Bool) (e f g h i j l b m n o p:LL) (q r:Int):ZfP (k+1) d c e f g h i j l b m n o p q r =
 (if P0 .lss r q then
 if (!c) then
 Zy (Z6 E0 b 240)<|
 (Zz8 d c).bind fun a=>
 Zy (Z6 b (E0++[[I a.1,I a.2.1,I a.2.2.1,I a.2.2.2.1,I (d4 a).1,I (d4 a).2.1,I (d6 a).1,I (d6 a).2.1,I (d8 a).1,I (d8 a).2.1,I (df a).1,I (df a).2.1,I (dg a).1,I (dg a).2.1,I (dh a).1,I (dh a).2.1,I (P2 a).1,I (P2 a).2.1,I (d2 (P2 a)).1,I (d2 (P2 a)).2.1,AV.slice Xc 3 (d4 (P2 a)).1,I (d4 (P2 a)).2.1,I (d6 (P2 a)).1,I (d6 (P2 a)).2.1,I (d8 (P2 a)).1,I (d8 (P2 a)).2.1,I (df (P2 a)).1,B (df (P2 a)).2.1]]) 240)<|
 ZfP k (dg (P2 a)).1 (dg (P2 a)).2 e f g h i j l (b++(E0++[[I a.1,I a.2.1,I a.2.2.1,I a.2.2.2.1,I (d4 a).1,I (d4 a).2.1,I (d6 a).1,I (d6 a).2.1,I (d8 a).1,I (d8 a).2.1,I (df a).1,I (df a).2.1,I (dg a).1,I (dg a).2.1,I (dh a).1,I (dh a).2.1,I (P2 a).1,I (P2 a).2.1,I (d2 (P2 a)).1,I (d2 (P2 a)).2.1,AV.slice Xc 3 (d4 (P2 a)).1,I (d4 (P2 a)).2.1,I (d6 (P2 a)).1,I (d6 (P2 a)).2.1,I (d8 (P2 a)).1,I (d8 (P2 a)).2.1,I (df (P2 a)).1,B (df (P2 a)).2.1]])) m n o p q (P1 .add .i64 r 1)
 else
 (YZ d c).bind fun a=>
 ZfB Zr a.2.1 a.2.2 e f g h i j l b m n o p a.1 0
 else
 (YZ d c).bind fun a=>
 ZfB Zr a.2.1 a.2.2 e f g h i j l b m n o p a.1 0):=by kernel_rfl
noncomputable def ZjE (k:Nat) (a:LL) (c:Bool) (d e f g h j m n o p q r:LL) (s t:Int):Option (Qt35):=Zru.lp [2] 0 r0 k [.l a,.b c,.l d,.l e,.l f,.l g,.l h,.l j,.l m,.l n,.l o,.l p,.l q,.l r,.i s,.i t]
def ZjY (k:Nat) (e:LL) (d:Bool) (f g h i j l c m n o p q:LL) (s t:Int):ZjE (k+1) e d f g h i j l c m n o p q s t =
 (if P0 .lss t s then
 if (!d) then
 (Zyz e d).bind fun a=>
 (YZ (df a).2.1 (dg a)).bind fun r=>
 (Zo8 r.2.1 r.2.2).bind fun b=>
 Zy (Z6 E0 c 136)<|
 Zy (Z6 c (E0++[[I a.1,I a.2.1,I a.2.2.1,AV.slice Xc 3 a.2.2.2.1,I (d4 a).1,I (d4 a).2.1,I (d6 a).1,I (d6 a).2.1,I (d8 a).1,I (d8 a).2.1,B (df a).1,I r.1,I b.1,I b.2.1,I b.2.2.1]]) 136)<|
 ZjE k b.2.2.2.1 b.2.2.2.2 f g h i j l (c++(E0++[[I a.1,I a.2.1,I a.2.2.1,AV.slice Xc 3 a.2.2.2.1,I (d4 a).1,I (d4 a).2.1,I (d6 a).1,I (d6 a).2.1,I (d8 a).1,I (d8 a).2.1,B (df a).1,I r.1,I b.1,I b.2.1,I b.2.2.1]])) m n o p q s (P1 .add .i64 t 1)
 else
 (YZ e d).bind fun a=>
 ZfP Zr a.2.1 a.2.2 f g h i j l c m n o p q a.1 0
 else
 (YZ e d).bind fun a=>
 ZfP Zr a.2.1 a.2.2 f g h i j l c m n o p q a.1 0):=by kernel_rfl
def ZvS (b:LL) (c:Bool):Zyn b c =
 ((YZ b c).bind fun a=>
 ZjE Zr a.2.1 a.2.2 E0 E0 E0 E0 E0 E0 E0 E0 E0 E0 E0 E0 a.1 0):=by kernel_rfl
noncomputable def ZDv:Fn:=⟨24,[2],[],[0],0,[],[],Tryz.f148,[.box [.slice 1,.bool]],[.agg hs7],[(142,Zj7.S),(149,Zy5.S),(150,Zru.S)]⟩
def ZEZ:ZDv.S.Ok Tryz.prog 148:=ZDv.ok Tryz.func148 ⟨Zc1,⟨Zz7,⟨ZBv,trivial⟩⟩⟩
noncomputable def ZDM (a:LL) (c:Bool):Option (Qt17):=ZDv.S.g [.l a,.b c]
def ZuL (g:LL) (h:Bool):ZDM g h =
 ((YZ g h).bind fun e=>
 (Zym e.2.1 e.2.2).bind fun c=>
 (Zyn c.2.2.2.1 c.2.2.2.2).bind fun a=>
 (YZ (d6 a).1 a.2.2.2.2.2.2.2).bind fun f=>
 (Zym f.2.1 f.2.2).bind fun d=>
 (Zyn d.2.2.2.1 d.2.2.2.2).bind fun b=>
 Xa (e.1,c.1,c.2.1,c.2.2.1,a.1,a.2.1,a.2.2.1,a.2.2.2.1,(d4 a).1,(d4 a).2.1,(P0 .eql f.1 1),d.1,d.2.1,d.2.2.1,b.1,b.2.1,b.2.2.1,b.2.2.2.1,(d4 b).1,(d4 b).2.1,(d6 b).1,b.2.2.2.2.2.2.2)):=by kernel_rfl
noncomputable def F66:Fn:=⟨148,[2],[(44,[(0,.box [.slice 1,.bool]),(2,.box hs0),(3,.box hs0),(4,.c (.int .i64)),(5,.c (.int .i64))])],[0],0,[],[],Tryz.f66,[.box [.slice 1,.bool]],[.agg hs0],[(142,Zj7.S),(143,ZC3.S),(144,ZDm.S),(145,ZzQ.S),(146,Zx9.S),(147,Zyq.S),(148,ZDv.S),(149,Zy5.S),(150,Zru.S)]⟩
def ZLy:F66.S.Ok Tryz.prog 66:=F66.ok Tryz.func66 ⟨Zc1,⟨ZC6,⟨ZIg,⟨ZE3,⟨ZAk,⟨ZzC,⟨ZEZ,⟨Zz7,⟨ZBv,trivial⟩⟩⟩⟩⟩⟩⟩⟩⟩
noncomputable def g66 (a:LL) (c:Bool):Option (Qt2):=F66.S.g [.l a,.b c]
noncomputable def Zq7 (k:Nat) (a:LL) (c:Bool) (d e f g h j m n o p q:Int) (r:Bool) (s t u v w x y z A C D E G H J K L M N O:Int) (P:LL) (Q R T U V W:Int) (X:Bool) (Y Z S ab:LL) (ac ad:Int) (ae af ag ah ai aj ak al:LL) (am an:Int) (ao ap aq ar aZ au av aw:LL) (ax:Bool) (ay:Int) (az a0 a1 a2 a3 a4 a5 a6:LL) (a7 a8 a9 ba bb bc bd be bf bg bh:Int) (bi:Bool) (bj bk bl bm bn bo bp bq br bs bt bu bv bw bx bz b0 b1 b2 b3:Int) (b4:LL) (b5 b6 b7 b8 b9 ca:Int) (cb:Bool) (cc cd ce cf:LL) (cg ch:Int) (ci cj ck cl cm cn co cp:LL) (cq cr:Int) (cs ct cu cv cw cx cy cz:LL) (c0:Bool) (c1:Int) (c2 c3 c4 c5 c6 c7 c8 c9:LL) (da db:Int):Option (Qt2):=F66.lp [4,1,1,1,1,1,1,1,1,1,1,0,3] 0 r0 k [.l a,.b c,.i d,.i e,.i f,.i g,.i h,.i j,.i m,.i n,.i o,.i p,.i q,.b r,.i s,.i t,.i u,.i v,.i w,.i x,.i y,.i z,.i A,.i C,.i D,.i E,.i G,.i H,.i J,.i K,.i L,.i M,.i N,.i O,.l P,.i Q,.i R,.i T,.i U,.i V,.i W,.b X,.l Y,.l Z,.l S,.l ab,.i ac,.i ad,.l ae,.l af,.l ag,.l ah,.l ai,.l aj,.l ak,.l al,.i am,.i an,.l ao,.l ap,.l aq,.l ar,.l aZ,.l au,.l av,.l aw,.b ax,.i ay,.l az,.l a0,.l a1,.l a2,.l a3,.l a4,.l a5,.l a6,.i a7,.i a8,.i a9,.i ba,.i bb,.i bc,.i bd,.i be,.i bf,.i bg,.i bh,.b bi,.i bj,.i bk,.i bl,.i bm,.i bn,.i bo,.i bp,.i bq,.i br,.i bs,.i bt,.i bu,.i bv,.i bw,.i bx,.i bz,.i b0,.i b1,.i b2,.i b3,.l b4,.i b5,.i b6,.i b7,.i b8,.i b9,.i ca,.b cb,.l cc,.l cd,.l ce,.l cf,.i cg,.i ch,.l ci,.l cj,.l ck,.l cl,.l cm,.l cn,.l co,.l cp,.i cq,.i cr,.l cs,.l ct,.l cu,.l cv,.l cw,.l cx,.l cy,.l cz,.b c0,.i c1,.l c2,.l c3,.l c4,.l c5,.l c6,.l c7,.l c8,.l c9,.i da,.i db]
def Zma (k:Nat) (c:LL) (b:Bool) (x2 x3 x4 x5 x6 x7 x8 x9 bg bh bi:Int) (bj:Bool) (bk bl bm bn bo bp bq br bs bt bu bv bw bx bz b0 b1 b2 b3 b4:Int) (b5:LL) (b6 b7 b8 b9 ca cb:Int) (cc:Bool) (cd ce cf cg:LL) (ch ci:Int) (cj ck cl cm cn co cp cq:LL) (cr cs:Int) (ct cu cv cw cx cy cz c0:LL) (c1:Bool) (c2:Int) (c3 c4 c5 c6 c7 c8 c9 da:LL) (d e f g h i j l m n o:Int) (p:Bool) (q r s t u v w x y z A C D E G H J K L M:Int) (N:LL) (O P Q R T U:Int) (V:Bool) (W X Y a:LL) (Z S:Int) (ab ac ad ae af ag ah ai:LL) (aj ak:Int) (al am an ao ap aq ar aZ:LL) (au:Bool) (av:Int) (aw ax ay az a0 a1 a2 a3:LL) (a6 a7:Int):Zq7 (k+1) c b x2 x3 x4 x5 x6 x7 x8 x9 bg bh bi bj bk bl bm bn bo bp bq br bs bt bu bv bw bx bz b0 b1 b2 b3 b4 b5 b6 b7 b8 b9 ca cb cc cd ce cf cg ch ci cj ck cl cm cn co cp cq cr cs ct cu cv cw cx cy cz c0 c1 c2 c3 c4 c5 c6 c7 c8 c9 da d e f g h i j l m n o p q r s t u v w x y z A C D E G H J K L M N O P Q R T U V W X Y a Z S ab ac ad ae af ag ah ai aj ak al am an ao ap aq ar aZ au av aw ax ay az a0 a1 a2 a3 a6 a7 =
 (if P0 .lss a7 a6 then
 if (!b) then
 (YZ c b).bind fun a4=>
 (YZ a4.2.1 a4.2.2).bind fun a5=>
 Zy (Z6 E0 a 16)<|
 Zy (Z6 a (E0++[[I a4.1,I a5.1]]) 16)<|
 Zq7 k a5.2.1 a5.2.2 x2 x3 x4 x5 x6 x7 x8 x9 bg bh bi bj bk bl bm bn bo bp bq br bs bt bu bv bw bx bz b0 b1 b2 b3 b4 b5 b6 b7 b8 b9 ca cb cc cd ce cf cg ch ci cj ck cl cm cn co cp cq cr cs ct cu cv cw cx cy cz c0 c1 c2 c3 c4 c5 c6 c7 c8 c9 da d e f g h i j l m n o p q r s t u v w x y z A C D E G H J K L M N O P Q R T U V W X Y (a++(E0++[[I a4.1,I a5.1]])) Z S ab ac ad ae af ag ah ai aj ak al am an ao ap aq ar aZ au av aw ax ay az a0 a1 a2 a3 a6 (P1 .add .i64 a7 1)
 else
 Xa (d,e,f,g,h,i,j,l,m,n,o,p,q,r,s,t,u,v,w,x,y,z,A,C,D,E,G,H,J,K,L,M,N,O,P,Q,R,T,U,V,W,X,Y,a,Z,S,ab,ac,ad,ae,af,ag,ah,ai,aj,ak,al,am,an,ao,ap,aq,ar,aZ,au,av,aw,ax,ay,az,a0,a1,a2,a3,c,b)
 else
 Xa (d,e,f,g,h,i,j,l,m,n,o,p,q,r,s,t,u,v,w,x,y,z,A,C,D,E,G,H,J,K,L,M,N,O,P,Q,R,T,U,V,W,X,Y,a,Z,S,ab,ac,ad,ae,af,ag,ah,ai,aj,ak,al,am,an,ao,ap,aq,ar,aZ,au,av,aw,ax,ay,az,a0,a1,a2,a3,c,b)):=by kernel_rfl
def ZAO (m:LL) (n:Bool):g66 m n =
 ((YZ m n).bind fun d=>
 (YZ d.2.1 d.2.2).bind fun f=>
 (YZ f.2.1 f.2.2).bind fun g=>
 (YZ g.2.1 g.2.2).bind fun c=>
 if P0 .eql d.1 1 then
 (YZ c.2.1 c.2.2).bind fun a=>
 (Zz8 a.2.1 a.2.2).bind fun b=>
 Xa (d.1,f.1,g.1,c.1,0,a.1,0,0,0,0,0,Xc,b.1,b.2.1,b.2.2.1,b.2.2.2.1,(d4 b).1,(d4 b).2.1,(d6 b).1,(d6 b).2.1,(d8 b).1,(d8 b).2.1,(df b).1,(df b).2.1,(dg b).1,(dg b).2.1,(dh b).1,(dh b).2.1,(P2 b).1,(P2 b).2.1,(d2 (P2 b)).1,(d2 (P2 b)).2.1,(d4 (P2 b)).1,(d4 (P2 b)).2.1,(d6 (P2 b)).1,(d6 (P2 b)).2.1,(d8 (P2 b)).1,(d8 (P2 b)).2.1,(df (P2 b)).1,(df (P2 b)).2.1,E0,E0,E0,E0,0,0,E0,E0,E0,E0,E0,E0,E0,E0,0,0,E0,E0,E0,E0,E0,E0,E0,E0,Xc,0,E0,E0,E0,E0,E0,E0,E0,E0,(dg (P2 b)).1,(dg (P2 b)).2)
 else
 if P0 .eql d.1 2 then
 (ZoH c.2.1 c.2.2 d.1 f.1 g.1 c.1 0 0 0 0 0 0 0 Xc 0 0 0 0 0 0 0 0 0 0 0 0 0 0 0 0 0 0 0 0 E0 0 0 0 0 0 0 Xc E0 E0 E0 E0 0 0 E0 E0 E0 E0 E0 E0 E0 E0 0 0 E0 E0 E0 E0 E0 E0 E0 E0 Xc 0 E0 E0 E0 E0 E0 E0 E0 E0).bind fun a=>
 (YZ (df (dk a)).1 (df (dk a)).2).bind fun e=>
 (YZ e.2.1 e.2.2).bind fun i=>
 (Zx3 i.2.1 i.2.2).bind fun k=>
 Xa (a.1,a.2.1,a.2.2.1,a.2.2.2.1,(d4 a).1,(d4 a).2.1,(d6 a).1,(d6 a).2.1,(d8 a).1,(d8 a).2.1,e.1,(P0 .eql i.1 1),(dg a).1,(dg a).2.1,(dh a).1,(dh a).2.1,(P2 a).1,(P2 a).2.1,(d2 (P2 a)).1,(d2 (P2 a)).2.1,(d4 (P2 a)).1,(d4 (P2 a)).2.1,(d6 (P2 a)).1,(d6 (P2 a)).2.1,(d8 (P2 a)).1,(d8 (P2 a)).2.1,(df (P2 a)).1,(df (P2 a)).2.1,(dg (P2 a)).1,(dg (P2 a)).2.1,(dh (P2 a)).1,(dh (P2 a)).2.1,(di a).1,(di a).2.1,(d2 (di a)).1,(d2 (di a)).2.1,(d4 (di a)).1,(d4 (di a)).2.1,(d6 (di a)).1,(d6 (di a)).2.1,(d8 (di a)).1,k.1,(df (di a)).1,(df (di a)).2.1,(dg (di a)).1,(dg (di a)).2.1,(dh (di a)).1,(dh (di a)).2.1,(dj a).1,(dj a).2.1,(d2 (dj a)).1,(d2 (dj a)).2.1,(d4 (dj a)).1,(d4 (dj a)).2.1,(d6 (dj a)).1,(d6 (dj a)).2.1,(d8 (dj a)).1,(d8 (dj a)).2.1,(df (dj a)).1,(df (dj a)).2.1,(dg (dj a)).1,(dg (dj a)).2.1,(dh (dj a)).1,(dh (dj a)).2.1,(dk a).1,(dk a).2.1,(d2 (dk a)).1,(d2 (dk a)).2.1,(d4 (dk a)).1,(d4 (dk a)).2.1,(d6 (dk a)).1,(d6 (dk a)).2.1,(d8 (dk a)).1,(d8 (dk a)).2.1,k.2.1,k.2.2)
 else
 if P0 .eql d.1 4 then
 (ZoH c.2.1 c.2.2 d.1 f.1 g.1 c.1 0 0 0 0 0 0 0 Xc 0 0 0 0 0 0 0 0 0 0 0 0 0 0 0 0 0 0 0 0 E0 0 0 0 0 0 0 Xc E0 E0 E0 E0 0 0 E0 E0 E0 E0 E0 E0 E0 E0 0 0 E0 E0 E0 E0 E0 E0 E0 E0 Xc 0 E0 E0 E0 E0 E0 E0 E0 E0).bind fun a=>
 (YZ (df (dk a)).1 (df (dk a)).2).bind fun e=>
 (Zx3 e.2.1 e.2.2).bind fun i=>
 Xa (a.1,a.2.1,a.2.2.1,a.2.2.2.1,(d4 a).1,(d4 a).2.1,e.1,(d6 a).2.1,(d8 a).1,(d8 a).2.1,(df a).1,(df a).2.1,(dg a).1,(dg a).2.1,(dh a).1,(dh a).2.1,(P2 a).1,(P2 a).2.1,(d2 (P2 a)).1,(d2 (P2 a)).2.1,(d4 (P2 a)).1,(d4 (P2 a)).2.1,(d6 (P2 a)).1,(d6 (P2 a)).2.1,(d8 (P2 a)).1,(d8 (P2 a)).2.1,(df (P2 a)).1,(df (P2 a)).2.1,(dg (P2 a)).1,(dg (P2 a)).2.1,(dh (P2 a)).1,(dh (P2 a)).2.1,(di a).1,(di a).2.1,(d2 (di a)).1,(d2 (di a)).2.1,(d4 (di a)).1,(d4 (di a)).2.1,(d6 (di a)).1,(d6 (di a)).2.1,(d8 (di a)).1,i.1,(df (di a)).1,(df (di a)).2.1,(dg (di a)).1,(dg (di a)).2.1,(dh (di a)).1,(dh (di a)).2.1,(dj a).1,(dj a).2.1,(d2 (dj a)).1,(d2 (dj a)).2.1,(d4 (dj a)).1,(d4 (dj a)).2.1,(d6 (dj a)).1,(d6 (dj a)).2.1,(d8 (dj a)).1,(d8 (dj a)).2.1,(df (dj a)).1,(df (dj a)).2.1,(dg (dj a)).1,(dg (dj a)).2.1,(dh (dj a)).1,(dh (dj a)).2.1,(dk a).1,(dk a).2.1,(d2 (dk a)).1,(d2 (dk a)).2.1,(d4 (dk a)).1,(d4 (dk a)).2.1,(d6 (dk a)).1,(d6 (dk a)).2.1,(d8 (dk a)).1,(d8 (dk a)).2.1,i.2.1,i.2.2)
 else
 if P0 .eql d.1 5 then
 (ZoH c.2.1 c.2.2 d.1 f.1 g.1 c.1 0 0 0 0 0 0 0 Xc 0 0 0 0 0 0 0 0 0 0 0 0 0 0 0 0 0 0 0 0 E0 0 0 0 0 0 0 Xc E0 E0 E0 E0 0 0 E0 E0 E0 E0 E0 E0 E0 E0 0 0 E0 E0 E0 E0 E0 E0 E0 E0 Xc 0 E0 E0 E0 E0 E0 E0 E0 E0).bind fun a=>
 (YZ (df (dk a)).1 (df (dk a)).2).bind fun e=>
 Xa (a.1,a.2.1,a.2.2.1,a.2.2.2.1,(d4 a).1,(d4 a).2.1,(d6 a).1,(d6 a).2.1,(d8 a).1,(d8 a).2.1,e.1,(df a).2.1,(dg a).1,(dg a).2.1,(dh a).1,(dh a).2.1,(P2 a).1,(P2 a).2.1,(d2 (P2 a)).1,(d2 (P2 a)).2.1,(d4 (P2 a)).1,(d4 (P2 a)).2.1,(d6 (P2 a)).1,(d6 (P2 a)).2.1,(d8 (P2 a)).1,(d8 (P2 a)).2.1,(df (P2 a)).1,(df (P2 a)).2.1,(dg (P2 a)).1,(dg (P2 a)).2.1,(dh (P2 a)).1,(dh (P2 a)).2.1,(di a).1,(di a).2.1,(d2 (di a)).1,(d2 (di a)).2.1,(d4 (di a)).1,(d4 (di a)).2.1,(d6 (di a)).1,(d6 (di a)).2.1,(d8 (di a)).1,(d8 (di a)).2.1,(df (di a)).1,(df (di a)).2.1,(dg (di a)).1,(dg (di a)).2.1,(dh (di a)).1,(dh (di a)).2.1,(dj a).1,(dj a).2.1,(d2 (dj a)).1,(d2 (dj a)).2.1,(d4 (dj a)).1,(d4 (dj a)).2.1,(d6 (dj a)).1,(d6 (dj a)).2.1,(d8 (dj a)).1,(d8 (dj a)).2.1,(df (dj a)).1,(df (dj a)).2.1,(dg (dj a)).1,(dg (dj a)).2.1,(dh (dj a)).1,(dh (dj a)).2.1,(dk a).1,(dk a).2.1,(d2 (dk a)).1,(d2 (dk a)).2.1,(d4 (dk a)).1,(d4 (dk a)).2.1,(d6 (dk a)).1,(d6 (dk a)).2.1,(d8 (dk a)).1,(d8 (dk a)).2.1,e.2.1,e.2.2)
 else
 if P0 .eql d.1 6 then
 (ZoH c.2.1 c.2.2 d.1 f.1 g.1 c.1 0 0 0 0 0 0 0 Xc 0 0 0 0 0 0 0 0 0 0 0 0 0 0 0 0 0 0 0 0 E0 0 0 0 0 0 0 Xc E0 E0 E0 E0 0 0 E0 E0 E0 E0 E0 E0 E0 E0 0 0 E0 E0 E0 E0 E0 E0 E0 E0 Xc 0 E0 E0 E0 E0 E0 E0 E0 E0).bind fun a=>
 (Zx5 (df (dk a)).1 (df (dk a)).2).bind fun e=>
 Xa (a.1,a.2.1,a.2.2.1,a.2.2.2.1,(d4 a).1,(d4 a).2.1,(d6 a).1,(d6 a).2.1,(d8 a).1,(d8 a).2.1,(df a).1,(df a).2.1,(dg a).1,(dg a).2.1,(dh a).1,(dh a).2.1,(P2 a).1,(P2 a).2.1,(d2 (P2 a)).1,(d2 (P2 a)).2.1,(d4 (P2 a)).1,(d4 (P2 a)).2.1,(d6 (P2 a)).1,(d6 (P2 a)).2.1,(d8 (P2 a)).1,(d8 (P2 a)).2.1,(df (P2 a)).1,(df (P2 a)).2.1,(dg (P2 a)).1,(dg (P2 a)).2.1,(dh (P2 a)).1,(dh (P2 a)).2.1,(di a).1,(di a).2.1,(d2 (di a)).1,(d2 (di a)).2.1,(d4 (di a)).1,(d4 (di a)).2.1,(d6 (di a)).1,(d6 (di a)).2.1,e.1,(d8 (di a)).2.1,(df (di a)).1,(df (di a)).2.1,(dg (di a)).1,(dg (di a)).2.1,(dh (di a)).1,(dh (di a)).2.1,(dj a).1,(dj a).2.1,(d2 (dj a)).1,(d2 (dj a)).2.1,(d4 (dj a)).1,(d4 (dj a)).2.1,(d6 (dj a)).1,(d6 (dj a)).2.1,(d8 (dj a)).1,(d8 (dj a)).2.1,(df (dj a)).1,(df (dj a)).2.1,(dg (dj a)).1,(dg (dj a)).2.1,(dh (dj a)).1,(dh (dj a)).2.1,(dk a).1,(dk a).2.1,(d2 (dk a)).1,(d2 (dk a)).2.1,(d4 (dk a)).1,(d4 (dk a)).2.1,(d6 (dk a)).1,(d6 (dk a)).2.1,(d8 (dk a)).1,(d8 (dk a)).2.1,e.2.1,e.2.2)
 else
 if P0 .eql d.1 12 then
 (YZ c.2.1 c.2.2).bind fun a=>
 (Zrw a.2.1 a.2.2).bind fun b=>
 Xa (d.1,f.1,g.1,c.1,a.1,0,0,0,0,0,0,Xc,0,0,0,0,0,0,0,0,0,0,0,0,0,0,0,0,0,0,0,0,E0,0,0,0,0,0,0,Xc,E0,E0,b.1,E0,0,0,E0,E0,E0,E0,E0,E0,E0,E0,0,0,E0,E0,E0,E0,E0,E0,E0,E0,Xc,0,E0,E0,E0,E0,E0,E0,E0,E0,b.2.1,b.2.2)
 else
 if P0 .eql d.1 13 then
 (YZ c.2.1 c.2.2).bind fun a=>
 (ZDM a.2.1 a.2.2).bind fun b=>
 Xa (d.1,f.1,g.1,c.1,a.1,0,0,0,0,0,0,Xc,0,0,0,0,0,0,0,0,0,0,0,0,0,0,0,0,0,0,0,0,E0,0,0,0,0,0,0,Xc,E0,E0,E0,E0,0,0,E0,E0,E0,E0,E0,E0,E0,E0,b.1,b.2.1,b.2.2.1,b.2.2.2.1,(d4 b).1,(d4 b).2.1,(d6 b).1,(d6 b).2.1,(d8 b).1,(d8 b).2.1,(df b).1,(df b).2.1,(dg b).1,(dg b).2.1,(dh b).1,(dh b).2.1,(P2 b).1,(P2 b).2.1,(d2 (P2 b)).1,(d2 (P2 b)).2.1,(d4 (P2 b)).1,(d4 (P2 b)).2)
 else
 if P0 .eql d.1 14 then
 (YZ c.2.1 c.2.2).bind fun a=>
 (YZ a.2.1 a.2.2).bind fun b=>
 (Zrw b.2.1 b.2.2).bind fun l=>
 (Zym l.2.1 l.2.2).bind fun j=>
 (Zyn j.2.2.2.1 j.2.2.2.2).bind fun h=>
 Xa (d.1,f.1,g.1,c.1,a.1,0,0,0,0,0,0,Xc,0,0,0,0,0,0,0,0,0,0,0,0,0,0,0,0,0,0,0,0,E0,0,0,0,0,0,0,Xc,E0,E0,l.1,E0,b.1,j.1,j.2.1,j.2.2.1,h.1,h.2.1,h.2.2.1,h.2.2.2.1,(d4 h).1,(d4 h).2.1,0,0,E0,E0,E0,E0,E0,E0,E0,E0,Xc,0,E0,E0,E0,E0,E0,E0,E0,E0,(d6 h).1,h.2.2.2.2.2.2.2)
 else
 if P0 .eql d.1 15 then
 (YZ c.2.1 c.2.2).bind fun a=>
 Xa (d.1,f.1,g.1,c.1,a.1,0,0,0,0,0,0,Xc,0,0,0,0,0,0,0,0,0,0,0,0,0,0,0,0,0,0,0,0,E0,0,0,0,0,0,0,Xc,E0,E0,E0,E0,0,0,E0,E0,E0,E0,E0,E0,E0,E0,0,0,E0,E0,E0,E0,E0,E0,E0,E0,Xc,0,E0,E0,E0,E0,E0,E0,E0,E0,a.2.1,a.2.2)
 else
 if P0 .eql d.1 16 then
 (YZ c.2.1 c.2.2).bind fun a=>
 Xa (d.1,f.1,g.1,c.1,a.1,0,0,0,0,0,0,Xc,0,0,0,0,0,0,0,0,0,0,0,0,0,0,0,0,0,0,0,0,E0,0,0,0,0,0,0,Xc,E0,E0,E0,E0,0,0,E0,E0,E0,E0,E0,E0,E0,E0,0,0,E0,E0,E0,E0,E0,E0,E0,E0,Xc,0,E0,E0,E0,E0,E0,E0,E0,E0,a.2.1,a.2.2)
 else
 if P0 .eql d.1 17 then
 (Zrw c.2.1 c.2.2).bind fun a=>
 (YZ a.2.1 a.2.2).bind fun b=>
 Zq7 Zr b.2.1 b.2.2 0 0 0 0 0 0 0 0 0 0 0 Xc 0 0 0 0 0 0 0 0 0 0 0 0 0 0 0 0 0 0 0 0 E0 0 0 0 0 0 0 Xc E0 E0 E0 E0 0 0 E0 E0 E0 E0 E0 E0 E0 E0 0 0 E0 E0 E0 E0 E0 E0 E0 E0 Xc 0 E0 E0 E0 E0 E0 E0 E0 E0 d.1 f.1 g.1 c.1 0 0 0 0 0 0 0 Xc 0 0 0 0 0 0 0 0 0 0 0 0 0 0 0 0 0 0 0 0 E0 0 0 0 0 0 0 Xc E0 E0 a.1 E0 0 0 E0 E0 E0 E0 E0 E0 E0 E0 0 0 E0 E0 E0 E0 E0 E0 E0 E0 Xc 0 E0 E0 E0 E0 E0 E0 E0 E0 b.1 0
 else
 (ZoH c.2.1 c.2.2 d.1 f.1 g.1 c.1 0 0 0 0 0 0 0 Xc 0 0 0 0 0 0 0 0 0 0 0 0 0 0 0 0 0 0 0 0 E0 0 0 0 0 0 0 Xc E0 E0 E0 E0 0 0 E0 E0 E0 E0 E0 E0 E0 E0 0 0 E0 E0 E0 E0 E0 E0 E0 E0 Xc 0 E0 E0 E0 E0 E0 E0 E0 E0).bind fun a=>
 Xa (a.1,a.2.1,a.2.2.1,a.2.2.2.1,(d4 a).1,(d4 a).2.1,(d6 a).1,(d6 a).2.1,(d8 a).1,(d8 a).2.1,(df a).1,(df a).2.1,(dg a).1,(dg a).2.1,(dh a).1,(dh a).2.1,(P2 a).1,(P2 a).2.1,(d2 (P2 a)).1,(d2 (P2 a)).2.1,(d4 (P2 a)).1,(d4 (P2 a)).2.1,(d6 (P2 a)).1,(d6 (P2 a)).2.1,(d8 (P2 a)).1,(d8 (P2 a)).2.1,(df (P2 a)).1,(df (P2 a)).2.1,(dg (P2 a)).1,(dg (P2 a)).2.1,(dh (P2 a)).1,(dh (P2 a)).2.1,(di a).1,(di a).2.1,(d2 (di a)).1,(d2 (di a)).2.1,(d4 (di a)).1,(d4 (di a)).2.1,(d6 (di a)).1,(d6 (di a)).2.1,(d8 (di a)).1,(d8 (di a)).2.1,(df (di a)).1,(df (di a)).2.1,(dg (di a)).1,(dg (di a)).2.1,(dh (di a)).1,(dh (di a)).2.1,(dj a).1,(dj a).2.1,(d2 (dj a)).1,(d2 (dj a)).2.1,(d4 (dj a)).1,(d4 (dj a)).2.1,(d6 (dj a)).1,(d6 (dj a)).2.1,(d8 (dj a)).1,(d8 (dj a)).2.1,(df (dj a)).1,(df (dj a)).2.1,(dg (dj a)).1,(dg (dj a)).2.1,(dh (dj a)).1,(dh (dj a)).2.1,(dk a).1,(dk a).2.1,(d2 (dk a)).1,(d2 (dk a)).2.1,(d4 (dk a)).1,(d4 (dk a)).2.1,(d6 (dk a)).1,(d6 (dk a)).2.1,(d8 (dk a)).1,(d8 (dk a)).2.1,(df (dk a)).1,(df (dk a)).2)):=by kernel_rfl
noncomputable def F18:Fn:=⟨34,[2,3],[],[],0,[],[],Tryz.f18,[.c (.slice 1)],[.agg hs0,.c (.int .i64)],[(66,F66.S),(15,F15.S),(67,F67.S)]⟩
def ZLe:F18.S.Ok Tryz.prog 18:=F18.ok Tryz.func18 ⟨ZLy,⟨ZJo,⟨ZIW,trivial⟩⟩⟩
noncomputable def g18 (a:LL):Option (Qt4):=F18.S.g [.l a]
def Zy7 (b:LL):g18 b =
 ((g66 b Xc).bind fun a=>
 (g15 a.1 a.2.1 a.2.2.1 a.2.2.2.1 (d4 a).1 (d4 a).2.1 (d6 a).1 (d6 a).2.1 (d8 a).1 (d8 a).2.1 (df a).1 (df a).2.1 (dg a).1 (dg a).2.1 (dh a).1 (dh a).2.1 (P2 a).1 (P2 a).2.1 (d2 (P2 a)).1 (d2 (P2 a)).2.1 (d4 (P2 a)).1 (d4 (P2 a)).2.1 (d6 (P2 a)).1 (d6 (P2 a)).2.1 (d8 (P2 a)).1 (d8 (P2 a)).2.1 (df (P2 a)).1 (df (P2 a)).2.1 (dg (P2 a)).1 (dg (P2 a)).2.1 (dh (P2 a)).1 (dh (P2 a)).2.1 (di a).1 (di a).2.1 (d2 (di a)).1 (d2 (di a)).2.1 (d4 (di a)).1 (d4 (di a)).2.1 (d6 (di a)).1 (d6 (di a)).2.1 (d8 (di a)).1 (d8 (di a)).2.1 (df (di a)).1 (df (di a)).2.1 (dg (di a)).1 (dg (di a)).2.1 (dh (di a)).1 (dh (di a)).2.1 (dj a).1 (dj a).2.1 (d2 (dj a)).1 (d2 (dj a)).2.1 (d4 (dj a)).1 (d4 (dj a)).2.1 (d6 (dj a)).1 (d6 (dj a)).2.1 (d8 (dj a)).1 (d8 (dj a)).2.1 (df (dj a)).1 (df (dj a)).2.1 (dg (dj a)).1 (dg (dj a)).2.1 (dh (dj a)).1 (dh (dj a)).2.1 (dk a).1 (dk a).2.1 (d2 (dk a)).1 (d2 (dk a)).2.1 (d4 (dk a)).1 (d4 (dk a)).2.1 (d6 (dk a)).1 (d6 (dk a)).2.1 (d8 (dk a)).1 (d8 (dk a)).2.1).bind fun c=>
 if (df (dk a)).2 then
 Xa (0,0,0,0,0,0,0,0,0,0,0,Xc,0,0,0,0,0,0,0,0,0,0,0,0,0,0,0,0,0,0,0,0,E0,0,0,0,0,0,0,Xc,E0,E0,E0,E0,0,0,E0,E0,E0,E0,E0,E0,E0,E0,0,0,E0,E0,E0,E0,E0,E0,E0,E0,Xc,0,E0,E0,E0,E0,E0,E0,E0,E0,14)
 else
 if P0 .neq c.2 0 then
 Xa (0,0,0,0,0,0,0,0,0,0,0,Xc,0,0,0,0,0,0,0,0,0,0,0,0,0,0,0,0,0,0,0,0,E0,0,0,0,0,0,0,Xc,E0,E0,E0,E0,0,0,E0,E0,E0,E0,E0,E0,E0,E0,0,0,E0,E0,E0,E0,E0,E0,E0,E0,Xc,0,E0,E0,E0,E0,E0,E0,E0,E0,14)
 else
 (g67 c.1 b).bind fun d=>
 if (!d) then
 Xa (0,0,0,0,0,0,0,0,0,0,0,Xc,0,0,0,0,0,0,0,0,0,0,0,0,0,0,0,0,0,0,0,0,E0,0,0,0,0,0,0,Xc,E0,E0,E0,E0,0,0,E0,E0,E0,E0,E0,E0,E0,E0,0,0,E0,E0,E0,E0,E0,E0,E0,E0,Xc,0,E0,E0,E0,E0,E0,E0,E0,E0,14)
 else
 Xa (a.1,a.2.1,a.2.2.1,a.2.2.2.1,(d4 a).1,(d4 a).2.1,(d6 a).1,(d6 a).2.1,(d8 a).1,(d8 a).2.1,(df a).1,(df a).2.1,(dg a).1,(dg a).2.1,(dh a).1,(dh a).2.1,(P2 a).1,(P2 a).2.1,(d2 (P2 a)).1,(d2 (P2 a)).2.1,(d4 (P2 a)).1,(d4 (P2 a)).2.1,(d6 (P2 a)).1,(d6 (P2 a)).2.1,(d8 (P2 a)).1,(d8 (P2 a)).2.1,(df (P2 a)).1,(df (P2 a)).2.1,(dg (P2 a)).1,(dg (P2 a)).2.1,(dh (P2 a)).1,(dh (P2 a)).2.1,(di a).1,(di a).2.1,(d2 (di a)).1,(d2 (di a)).2.1,(d4 (di a)).1,(d4 (di a)).2.1,(d6 (di a)).1,(d6 (di a)).2.1,(d8 (di a)).1,(d8 (di a)).2.1,(df (di a)).1,(df (di a)).2.1,(dg (di a)).1,(dg (di a)).2.1,(dh (di a)).1,(dh (di a)).2.1,(dj a).1,(dj a).2.1,(d2 (dj a)).1,(d2 (dj a)).2.1,(d4 (dj a)).1,(d4 (dj a)).2.1,(d6 (dj a)).1,(d6 (dj a)).2.1,(d8 (dj a)).1,(d8 (dj a)).2.1,(df (dj a)).1,(df (dj a)).2.1,(dg (dj a)).1,(dg (dj a)).2.1,(dh (dj a)).1,(dh (dj a)).2.1,(dk a).1,(dk a).2.1,(d2 (dk a)).1,(d2 (dk a)).2.1,(d4 (dk a)).1,(d4 (dk a)).2.1,(d6 (dk a)).1,(d6 (dk a)).2.1,(d8 (dk a)).1,(d8 (dk a)).2.1,0)):=by kernel_rfl
end Go.Proofs.YtjldbnbdcmfbmaaGreat
