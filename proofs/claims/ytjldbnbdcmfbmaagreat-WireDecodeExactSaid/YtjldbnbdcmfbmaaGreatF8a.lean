import Derived.Test.YtjldbnbdcmfbmaaGreatGW8
open Option renaming some→Xa
open Bool renaming true→Xb,false→Xc
open List renaming length→Xh,take→UK
open Go.IntKind renaming wrap→Xi
open Int renaming toNat→XJ
set_option linter.unusedVariables false
set_option linter.unusedSimpArgs false
set_option linter.defProp false
namespace Go.Proofs.YtjldbnbdcmfbmaaGreat
open Go Go.AM
set_option maxRecDepth 100000
noncomputable def F32:Fn:=⟨44,[2,3],[],[],0,[],[],Tryz.f32,[.c (.int .i64)],[.c (.own Xc 89),.c (.bool)],[]⟩
def ZF3:F32.S.Ok Tryz.prog 32:=F32.ok Tryz.func32
noncomputable def g32 (a:Int):Option (LL×Bool):=F32.S.g [.i a]
def Kp (a:Int):g32 a =
 (if P0 .eql a 1 then
 Xa (((E0++[[I 0]])++[[I 1]]),Xb)
 else
 if P0 .eql a 2 then
 Xa ((((((E0++[[I 0]])++[[I 2]])++[[I 3]])++[[I 4]])++[[I 5]]),Xb)
 else
 if P0 .eql a 3 then
 Xa (((E0++[[I 0]])++[[I 2]]),Xb)
 else
 if P0 .eql a 7 then
 Xa (((E0++[[I 0]])++[[I 2]]),Xb)
 else
 if P0 .eql a 8 then
 Xa (((E0++[[I 0]])++[[I 2]]),Xb)
 else
 if P0 .eql a 9 then
 Xa (((E0++[[I 0]])++[[I 2]]),Xb)
 else
 if P0 .eql a 10 then
 Xa (((E0++[[I 0]])++[[I 2]]),Xb)
 else
 if P0 .eql a 11 then
 Xa (((E0++[[I 0]])++[[I 2]]),Xb)
 else
 if P0 .eql a 4 then
 Xa (((((E0++[[I 0]])++[[I 2]])++[[I 6]])++[[I 5]]),Xb)
 else
 if P0 .eql a 5 then
 Xa ((((E0++[[I 0]])++[[I 2]])++[[I 3]]),Xb)
 else
 if P0 .eql a 6 then
 Xa ((((E0++[[I 0]])++[[I 2]])++[[I 7]]),Xb)
 else
 if P0 .eql a 12 then
 Xa (((E0++[[I 8]])++[[I 9]]),Xb)
 else
 if P0 .eql a 13 then
 Xa (((E0++[[I 8]])++[[I 10]]),Xb)
 else
 if P0 .eql a 14 then
 Xa ((((((E0++[[I 8]])++[[I 11]])++[[I 9]])++[[I 12]])++[[I 13]]),Xb)
 else
 if P0 .eql a 15 then
 Xa ((E0++[[I 8]]),Xb)
 else
 if P0 .eql a 16 then
 Xa ((E0++[[I 8]]),Xb)
 else
 if P0 .eql a 17 then
 Xa (((E0++[[I 9]])++[[I 14]]),Xb)
 else
 Xa (E0,Xc)):=by kernel_rfl
noncomputable def F33:Fn:=⟨9,[2],[],[],0,[],[],Tryz.f33,[.c (.int .i64)],[.c (.bool)],[]⟩
def ZHd:F33.S.Ok Tryz.prog 33:=F33.ok Tryz.func33
noncomputable def g33 (a:Int):Option (Bool):=F33.S.g [.i a]
def ZAd (a:Int):g33 a =
 (if P0 .geq a 0 then
 Xa ((P0 .leq a 1073741824))
 else
 Xa (Xc)):=by kernel_rfl
noncomputable def F34:Fn:=⟨9,[2],[],[],0,[],[],Tryz.f34,[.c (.int .i64)],[.c (.bool)],[]⟩
def ZuM:F34.S.Ok Tryz.prog 34:=F34.ok Tryz.func34
noncomputable def g34 (a:Int):Option (Bool):=F34.S.g [.i a]
def ZCC (a:Int):g34 a =
 (if P0 .geq a 0 then
 Xa ((P0 .lss a 32))
 else
 Xa (Xc)):=by kernel_rfl
noncomputable def F89:Fn:=⟨9,[2],[],[],0,[],[],Tryz.f89,[.c (.int .i64)],[.c (.bool)],[]⟩
def ZEd:F89.S.Ok Tryz.prog 89:=F89.ok Tryz.func89
noncomputable def g89 (a:Int):Option (Bool):=F89.S.g [.i a]
def ZCd (a:Int):g89 a =
 (if P0 .geq a 0 then
 Xa ((P0 .lss a 16))
 else
 Xa (Xc)):=by kernel_rfl
noncomputable def F99:Fn:=⟨31,[2],[],[],0,[],[],Tryz.f99,[.agg [.int .i64,.int .i64,.int .i64]],[.c (.bool)],[]⟩
def ZDd:F99.S.Ok Tryz.prog 99:=F99.ok Tryz.func99
noncomputable def g99 (a b c:Int):Option (Bool):=F99.S.g [.i a,.i b,.i c]
def ZCV (a b c:Int):g99 a b c =
 (if P0 .geq a 0 then
 if P0 .lss a 32 then
 if P0 .geq b 1 then
 if P0 .leq b 1073741824 then
 if P0 .geq c 0 then
 Xa ((P0 .lss c 8))
 else
 Xa (Xc)
 else
 Xa (Xc)
 else
 Xa (Xc)
 else
 Xa (Xc)
 else
 Xa (Xc)):=by kernel_rfl
noncomputable def F91:Fn:=⟨10,[2],[],[],0,[],[],Tryz.f91,[.agg [.int .i64,.int .i64,.int .i64]],[.c (.bool)],[(99,F99.S)]⟩
def ZDr:F91.S.Ok Tryz.prog 91:=F91.ok Tryz.func91 ⟨ZDd,trivial⟩
noncomputable def g91 (a b c:Int):Option (Bool):=F91.S.g [.i a,.i b,.i c]
def ZzU (b c a:Int):g91 b c a =
 ((g99 b c a).bind fun d=>
 if d then
 Xa ((P0 .eql a 0))
 else
 Xa (Xc)):=by kernel_rfl
noncomputable def ZAM:Fn:=⟨26,[4],[(4,[(0,.c (.slice 3)),(1,.c (.slice 3)),(12,.c (.int .i64)),(13,.c (.int .i64))])],[],0,[],[],Tryz.f196,[.c (.slice 3),.c (.slice 3)],[.c (.bool)],[]⟩
def ZHL:ZAM.S.Ok Tryz.prog 196:=ZAM.ok Tryz.func196
noncomputable def ZIh (a b:LL):Option (Bool):=ZAM.S.g [.l a,.l b]
noncomputable def Zei (k:Nat) (a b:LL) (c d:Int):Option (Bool):=ZAM.lp [1,0] 0 r0 k [.l a,.l b,.i c,.i d]
def Zjy (k:Nat) (b c:LL) (d a:Int):Zei (k+1) b c d a =
 (if P0 .lss a d then
 Zj b a [.int .i64,.int .i64,.int .i64] fun (e:Int×Int×Int)=>
 Zj c a [.int .i64,.int .i64,.int .i64] fun (f:Int×Int×Int)=>
 if (!((P0 .eql e.1 f.1)&&((P0 .eql e.2.1 f.2.1)&&((P0 .eql e.2.2 f.2.2)&&Xb)))) then
 Xa (Xc)
 else
 Zei k b c d (P1 .add .i64 a 1)
 else
 Xa (Xb)):=by kernel_rfl
def Zvu (a b:LL):ZIh a b =
 (if P0 .neq (Xh a:Int) (Xh b:Int) then
 Xa (Xc)
 else
 Zei Zr a b (Xh a:Int) 0):=by kernel_rfl
noncomputable def Zyv:Fn:=⟨24,[4],[],[],0,[],[],Tryz.f164,[.agg hs16,.agg hs16],[.c (.bool)],[(196,ZAM.S)]⟩
def Zuz:Zyv.S.Ok Tryz.prog 164:=Zyv.ok Tryz.func164 ⟨ZHL,trivial⟩
noncomputable def ZxL (a c d:Int) (e:LL) (f h j k m n:Int) (o:Bool) (p q r:Int) (s:LL) (t u v w x y:Int) (z:Bool):Option (Bool):=Zyv.S.g [.i a,.i c,.i d,.l e,.i f,.i h,.i j,.i k,.i m,.i n,.b o,.i p,.i q,.i r,.l s,.i t,.i u,.i v,.i w,.i x,.i y,.b z]
def ZwD (a b c:Int) (d:LL) (e f g h i j:Int) (k:Bool) (l m n:Int) (o:LL) (p q r s t u:Int) (v:Bool):ZxL a b c d e f g h i j k l m n o p q r s t u v =
 (if ((P0 .eql a l)&&((P0 .eql b m)&&((P0 .eql c n)&&Xb))) then
 if ((P0 .eql e p)&&((P0 .eql f q)&&((P0 .eql g r)&&((P0 .eql h s)&&((P0 .eql i t)&&((P0 .eql j u)&&((k == v)&&Xb))))))) then
 (ZIh d o).bind fun w=>
 Xa (w)
 else
 Xa (Xc)
 else
 Xa (Xc)):=by kernel_rfl
noncomputable def ZDW:Fn:=⟨38,[4],[],[],0,[],[],Tryz.f197,[.c (.int .i64),.c (.int .i64)],[.c (.bool)],[]⟩
def ZH3:ZDW.S.Ok Tryz.prog 197:=ZDW.ok Tryz.func197
noncomputable def ZGi (a b:Int):Option (Bool):=ZDW.S.g [.i a,.i b]
def Zw6 (b a:Int):ZGi b a =
 (if P0 .eql b 1 then
 if P0 .geq a 6 then
 Xa ((P0 .leq a 40))
 else
 Xa (Xc)
 else
 if P0 .eql b 2 then
 if P0 .geq a 12 then
 Xa ((P0 .leq a 40))
 else
 Xa (Xc)
 else
 if P0 .eql b 3 then
 Xa ((P0 .eql a 12))
 else
 if P0 .eql b 4 then
 Xa ((P0 .eql a 6))
 else
 if P0 .eql b 5 then
 Xa ((P0 .eql a 10))
 else
 if P0 .eql b 6 then
 Xa ((P0 .eql a 16))
 else
 Xa (Xc)):=by kernel_rfl
noncomputable def ZDq:Fn:=⟨8,[2],[],[],0,[],[],Tryz.f199,[.agg hs27],[.agg [.int .i64,.int .i64]],[]⟩
def ZFO:ZDq.S.Ok Tryz.prog 199:=ZDq.ok Tryz.func199
noncomputable def ZIf (a c d e f h:Int) (j:Bool):Option (Int×Int):=ZDq.S.g [.i a,.i c,.i d,.i e,.i f,.i h,.b j]
def ZwF (c a b d e f:Int) (g:Bool):ZIf c a b d e f g =
 (Xa (a,b)):=by kernel_rfl
noncomputable def ZDX:Fn:=⟨32,[2],[],[],0,[],[],Tryz.f198,[.agg [.int .i64,.int .i64]],[.c (.bool)],[]⟩
def ZG8:ZDX.S.Ok Tryz.prog 198:=ZDX.ok Tryz.func198
noncomputable def ZHF (a b:Int):Option (Bool):=ZDX.S.g [.i a,.i b]
def ZxU (b a:Int):ZHF b a =
 (if P0 .lss a 6 then
 Xa (Xc)
 else
 if P0 .gtr a 40 then
 Xa (Xc)
 else
 if P0 .lss b 0 then
 Xa (Xc)
 else
 Zy ((0:Int)≤a)<|
 Zy (((P1 .shl .i64 1 a):Int)≠0)<|
 if (P0 .eql (P1 .rem .i64 b (P1 .shl .i64 1 a)) 0) then
 Xa ((P0 .leq b (P1 .sub .i64 1099511627776 (P1 .shl .i64 1 a))))
 else
 Xa (Xc)):=by kernel_rfl
noncomputable def ZEm:Fn:=⟨22,[4],[],[],0,[],[],Tryz.f200,[.c (.int .i64),.c (.int .i64)],[.c (.bool)],[]⟩
def ZFs:ZEm.S.Ok Tryz.prog 200:=ZEm.ok Tryz.func200
noncomputable def ZGl (a b:Int):Option (Bool):=ZEm.S.g [.i a,.i b]
def Zxu (b a:Int):ZGl b a =
 (if P0 .eql b 32 then
 if P0 .geq a 0 then
 Xa ((P0 .leq a 1))
 else
 Xa (Xc)
 else
 if P0 .eql b 39 then
 if P0 .geq a 0 then
 Xa ((P0 .leq a 2))
 else
 Xa (Xc)
 else
 Xa (Xc)):=by kernel_rfl
noncomputable def Zx0:Fn:=⟨55,[2],[],[],0,[],[],Tryz.f166,[.agg hs27],[.c (.bool)],[(197,ZDW.S),(199,ZDq.S),(198,ZDX.S),(200,ZEm.S)]⟩
def Zxr:Zx0.S.Ok Tryz.prog 166:=Zx0.ok Tryz.func166 ⟨ZH3,⟨ZFO,⟨ZG8,⟨ZFs,trivial⟩⟩⟩⟩
noncomputable def ZBC (a c d e f h:Int) (j:Bool):Option (Bool):=Zx0.S.g [.i a,.i c,.i d,.i e,.i f,.i h,.b j]
def Zv0 (a g f b c d:Int) (e:Bool):ZBC a g f b c d e =
 ((ZGi a f).bind fun i=>
 if (!i) then
 Xa (Xc)
 else
 (ZIf a g f b c d e).bind fun h=>
 (ZHF h.1 h.2).bind fun j=>
 if (!j) then
 Xa (Xc)
 else
 if P0 .lss b 0 then
 Xa (Xc)
 else
 if P0 .gtr b 7 then
 Xa (Xc)
 else
 if P0 .eql a 3 then
 (ZGl c d).bind fun k=>
 if (!k) then
 Xa (Xc)
 else
 if (!e) then
 Xa (Xb)
 else
 if P0 .eql a 1 then
 Xa (Xb)
 else
 Xa ((P0 .eql a 2))
 else
 if P0 .neq c 0 then
 Xa (Xc)
 else
 if P0 .neq d 0 then
 Xa (Xc)
 else
 if (!e) then
 Xa (Xb)
 else
 if P0 .eql a 1 then
 Xa (Xb)
 else
 Xa ((P0 .eql a 2))):=by kernel_rfl
noncomputable def ZzA:Fn:=⟨19,[4],[(2,[(0,.c (.slice 3)),(3,.box [.int .i64,.int .i64,.int .i64]),(7,.c (.int .i64)),(8,.c (.int .i64))])],[],0,[],[],Tryz.f201,[.c (.slice 3),.agg [.int .i64,.int .i64,.int .i64]],[.c (.int .i64)],[]⟩
def ZHx:ZzA.S.Ok Tryz.prog 201:=ZzA.ok Tryz.func201
noncomputable def ZIw (a:LL) (b c d:Int):Option (Int):=ZzA.S.g [.l a,.i b,.i c,.i d]
noncomputable def Zjk (k:Nat) (a:LL) (b c d e f:Int):Option (Int):=ZzA.lp [0] 0 r0 k [.l a,.i b,.i c,.i d,.i e,.i f]
def Zjc (k:Nat) (b:LL) (c d e f a:Int):Zjk (k+1) b c d e f a =
 (if P0 .lss a f then
 Zj b a [.int .i64,.int .i64,.int .i64] fun (g:Int×Int×Int)=>
 if ((P0 .eql c g.1)&&((P0 .eql d g.2.1)&&((P0 .eql e g.2.2)&&Xb))) then
 Xa (a)
 else
 Zjk k b c d e f (P1 .add .i64 a 1)
 else
 Xa ((-1))):=by kernel_rfl
def ZuQ (a:LL) (b c d:Int):ZIw a b c d =
 (Zjk Zr a b c d (Xh a:Int) 0):=by kernel_rfl
noncomputable def ZEb:Fn:=⟨9,[4],[],[],0,[],[],Tryz.f167,[.c (.slice 3),.agg [.int .i64,.int .i64,.int .i64]],[.c (.bool)],[(201,ZzA.S)]⟩
def ZH1:ZEb.S.Ok Tryz.prog 167:=ZEb.ok Tryz.func167 ⟨ZHx,trivial⟩
noncomputable def ZGN (a:LL) (b c d:Int):Option (Bool):=ZEb.S.g [.l a,.i b,.i c,.i d]
def ZuP (a:LL) (b c d:Int):ZGN a b c d =
 ((ZIw a b c d).bind fun e=>
 Xa ((P0 .geq e 0))):=by kernel_rfl
noncomputable def F95:Fn:=⟨47,[2],[(4,[(1,.box hs16),(22,.c (.slice 3)),(23,.c (.int .i64)),(24,.c (.int .i64))])],[],0,[],[],Tryz.f95,[.agg hs16],[.c (.bool)],[(99,F99.S),(166,Zx0.S),(167,ZEb.S)]⟩
def Zx4:F95.S.Ok Tryz.prog 95:=F95.ok Tryz.func95 ⟨ZDd,⟨Zxr,⟨ZH1,trivial⟩⟩⟩
noncomputable def g95 (a c d:Int) (e:LL) (f h j k m n:Int) (o:Bool):Option (Bool):=F95.S.g [.i a,.i c,.i d,.l e,.i f,.i h,.i j,.i k,.i m,.i n,.b o]
noncomputable def ZrM (k:Nat) (a c d:Int) (e:LL) (f g h j m n:Int) (o:Bool) (p:LL) (q r:Int):Option (Bool):=F95.lp [0,1,0,1,1,0] 0 r0 k [.i a,.i c,.i d,.l e,.i f,.i g,.i h,.i j,.i m,.i n,.b o,.l p,.i q,.i r]
def Zmq (k:Nat) (d e f:Int) (c:LL) (i j l m n o:Int) (p:Bool) (g:LL) (h b:Int):ZrM (k+1) d e f c i j l m n o p g h b =
 (if P0 .lss b h then
 Zj g b [.int .i64,.int .i64,.int .i64] fun (a:Int×Int×Int)=>
 (g99 a.1 a.2.1 a.2.2).bind fun q=>
 if (!q) then
 Xa (Xc)
 else
 if ((P0 .eql a.1 d)&&((P0 .eql a.2.1 e)&&((P0 .eql a.2.2 f)&&Xb))) then
 Xa (Xc)
 else
 Zy ((0:Int)≤b)<|
 Zy ((b:Int)≤(Xh c:Int))<|
 (ZGN (UK (XJ b) c) a.1 a.2.1 a.2.2).bind fun r=>
 if r then
 Xa (Xc)
 else
 ZrM k d e f c i j l m n o p g h (P1 .add .i64 b 1)
 else
 Xa (Xb)):=by kernel_rfl
def ZCX (b c d:Int) (a:LL) (e f g h i j:Int) (k:Bool):g95 b c d a e f g h i j k =
 ((g99 b c d).bind fun l=>
 if (!l) then
 Xa (Xc)
 else
 (ZBC e f g h i j k).bind fun m=>
 if (!m) then
 Xa (Xc)
 else
 if P0 .gtr (Xh a:Int) 8 then
 Xa (Xc)
 else
 ZrM Zr b c d a e f g h i j k a (Xh a:Int) 0):=by kernel_rfl
noncomputable def F90:Fn:=⟨46,[2],[],[],0,[],[],Tryz.f90,[.agg hs6],[.c (.bool)],[(91,F91.S),(89,F89.S),(164,Zyv.S),(95,F95.S)]⟩
def ZJl:F90.S.Ok Tryz.prog 90:=F90.ok Tryz.func90 ⟨ZDr,⟨ZEd,⟨Zuz,⟨Zx4,trivial⟩⟩⟩⟩
noncomputable def g90 (a c d e f h j k m n o p q r s t u v w x:Int) (y:LL) (z A C D E G:Int) (H:Bool):Option (Bool):=F90.S.g [.i a,.i c,.i d,.i e,.i f,.i h,.i j,.i k,.i m,.i n,.i o,.i p,.i q,.i r,.i s,.i t,.i u,.i v,.i w,.i x,.l y,.i z,.i A,.i C,.i D,.i E,.i G,.b H]
def ZzS (o p q b s t u v w x y z A C D r n c d e:Int) (f:LL) (g h i j k l:Int) (m:Bool):g90 o p q b s t u v w x y z A C D r n c d e f g h i j k l m =
 ((g91 o p q).bind fun E=>
 if (!E) then
 Xa (Xc)
 else
 if P0 .lss b 1 then
 Xa (Xc)
 else
 if P0 .gtr b 6 then
 Xa (Xc)
 else
 (g89 r).bind fun G=>
 if (!G) then
 Xa (Xc)
 else
 if P0 .neq n 32 then
 if P0 .neq n 39 then
 Xa (Xc)
 else
 if P0 .eql b 1 then
 (ZxL c d e f g h i j k l m 0 0 0 E0 0 0 0 0 0 0 Xc).bind fun a=>
 Xa (a)
 else
 (g95 c d e f g h i j k l m).bind fun a=>
 Xa (a)
 else
 if P0 .eql b 1 then
 (ZxL c d e f g h i j k l m 0 0 0 E0 0 0 0 0 0 0 Xc).bind fun a=>
 Xa (a)
 else
 (g95 c d e f g h i j k l m).bind fun a=>
 Xa (a)):=by kernel_rfl
noncomputable def F92:Fn:=⟨9,[2],[],[],0,[],[],Tryz.f92,[.c (.int .i64)],[.c (.bool)],[]⟩
def ZI7:F92.S.Ok Tryz.prog 92:=F92.ok Tryz.func92
noncomputable def g92 (a:Int):Option (Bool):=F92.S.g [.i a]
def Zzf (a:Int):g92 a =
 (if P0 .geq a 0 then
 Xa ((P0 .leq a 99))
 else
 Xa (Xc)):=by kernel_rfl
noncomputable def F96:Fn:=⟨9,[2],[],[],0,[],[],Tryz.f96,[.c (.int .i64)],[.c (.bool)],[]⟩
def ZI3:F96.S.Ok Tryz.prog 96:=F96.ok Tryz.func96
noncomputable def g96 (a:Int):Option (Bool):=F96.S.g [.i a]
def Zz6 (a:Int):g96 a =
 (if P0 .geq a 0 then
 Xa ((P0 .lss a 64))
 else
 Xa (Xc)):=by kernel_rfl
noncomputable def ZB1:Fn:=⟨19,[4],[(2,[(0,.c (.slice 1)),(1,.c (.int .i64)),(7,.c (.int .i64)),(8,.c (.int .i64))])],[],0,[],[],Tryz.f202,[.c (.slice 1),.c (.int .i64)],[.c (.int .i64)],[]⟩
def ZGQ:ZB1.S.Ok Tryz.prog 202:=ZB1.ok Tryz.func202
noncomputable def ZHu (a:LL) (b:Int):Option (Int):=ZB1.S.g [.l a,.i b]
noncomputable def ZfW (k:Nat) (a:LL) (b c d:Int):Option (Int):=ZB1.lp [0] 0 r0 k [.l a,.i b,.i c,.i d]
def ZhQ (k:Nat) (b:LL) (c d a:Int):ZfW (k+1) b c d a =
 (if P0 .lss a d then
 Zj b a [.int .i64] fun (e:Int)=>
 if P0 .eql c e then
 Xa (a)
 else
 ZfW k b c d (P1 .add .i64 a 1)
 else
 Xa ((-1))):=by kernel_rfl
def ZvL (a:LL) (b:Int):ZHu a b =
 (ZfW Zr a b (Xh a:Int) 0):=by kernel_rfl
noncomputable def ZDY:Fn:=⟨9,[4],[],[],0,[],[],Tryz.f170,[.c (.slice 1),.c (.int .i64)],[.c (.bool)],[(202,ZB1.S)]⟩
def ZIl:ZDY.S.Ok Tryz.prog 170:=ZDY.ok Tryz.func170 ⟨ZGQ,trivial⟩
noncomputable def ZF8 (a:LL) (b:Int):Option (Bool):=ZDY.S.g [.l a,.i b]
def ZvP (a:LL) (b:Int):ZF8 a b =
 ((ZHu a b).bind fun c=>
 Xa ((P0 .geq c 0))):=by kernel_rfl
noncomputable def ZDu:Fn:=⟨6,[2],[],[],0,[],[],Tryz.f171,[.c (.int .i64)],[.c (.bool)],[(34,F34.S)]⟩
def ZGZ:ZDu.S.Ok Tryz.prog 171:=ZDu.ok Tryz.func171 ⟨ZuM,trivial⟩
noncomputable def ZE6 (a:Int):Option (Bool):=ZDu.S.g [.i a]
def ZuD (a:Int):ZE6 a =
 ((g34 a).bind fun b=>
 Xa ((!b))):=by kernel_rfl
noncomputable def ZbK:Fn:=⟨19,[4],[(2,[(0,.c (.slice 1)),(1,.clo 171 []),(7,.c (.int .i64)),(8,.c (.int .i64))])],[],0,[],[],Tryz.f169,[.c (.slice 1),.clo 171 []],[.c (.int .i64)],[(171,ZDu.S)]⟩
def Zqp:ZbK.S.Ok Tryz.prog 169:=ZbK.ok Tryz.func169 ⟨ZGZ,trivial⟩
noncomputable def Zg7 (a:LL):Option (Int):=ZbK.S.g [.l a]
noncomputable def K7 (k:Nat) (a:LL) (b c:Int):Option (Int):=ZbK.lp [0] 0 r0 k [.l a,.i b,.i c]
def Zb7 (k:Nat) (b:LL) (c a:Int):K7 (k+1) b c a =
 (if P0 .lss a c then
 Zj b a [.int .i64] fun (d:Int)=>
 (ZE6 d).bind fun e=>
 if e then
 Xa (a)
 else
 K7 k b c (P1 .add .i64 a 1)
 else
 Xa ((-1))):=by kernel_rfl
def Zkn (a:LL):Zg7 a =
 (K7 Zr a (Xh a:Int) 0):=by kernel_rfl
noncomputable def Zdc:Fn:=⟨9,[4],[],[],0,[],[],Tryz.f100,[.c (.slice 1),.clo 171 []],[.c (.bool)],[(169,ZbK.S)]⟩
def Zpu:Zdc.S.Ok Tryz.prog 100:=Zdc.ok Tryz.func100 ⟨Zqp,trivial⟩
noncomputable def Zha (a:LL):Option (Bool):=Zdc.S.g [.l a]
def ZkZ (a:LL):Zha a =
 ((Zg7 a).bind fun b=>
 Xa ((P0 .geq b 0))):=by kernel_rfl
noncomputable def Zx6:Fn:=⟨45,[2],[(4,[(1,.box [.int .i64,.slice 1,.slice 1]),(22,.c (.slice 1)),(23,.c (.int .i64)),(24,.c (.int .i64))])],[],0,[],[],Tryz.f105,[.agg [.int .i64,.slice 1,.slice 1]],[.c (.bool)],[(33,F33.S),(34,F34.S),(170,ZDY.S),(100,Zdc.S)]⟩
def ZBB:Zx6.S.Ok Tryz.prog 105:=Zx6.ok Tryz.func105 ⟨ZHd,⟨ZuM,⟨ZIl,⟨Zpu,trivial⟩⟩⟩⟩
noncomputable def ZzM (a:Int) (b c:LL):Option (Bool):=Zx6.S.g [.i a,.l b,.l c]
noncomputable def Zer (k:Nat) (a:Int) (b c d:LL) (e f:Int):Option (Bool):=Zx6.lp [0,1,1,1,0] 0 r0 k [.i a,.l b,.l c,.l d,.i e,.i f]
def Zij (k:Nat) (g:Int) (b d e:LL) (f a:Int):Zer (k+1) g b d e f a =
 (if P0 .lss a f then
 Zj e a [.int .i64] fun (c:Int)=>
 (g34 c).bind fun h=>
 if (!h) then
 Xa (Xc)
 else
 Zy ((0:Int)≤a)<|
 Zy ((a:Int)≤(Xh b:Int))<|
 (ZF8 (UK (XJ a) b) c).bind fun i=>
 if i then
 Xa (Xc)
 else
 Zer k g b d e f (P1 .add .i64 a 1)
 else
 (Zha d).bind fun c=>
 Xa ((!c))):=by kernel_rfl
def ZxB (b:Int) (a c:LL):ZzM b a c =
 ((g33 b).bind fun d=>
 if (!d) then
 Xa (Xc)
 else
 if P0 .gtr (Xh a:Int) 32 then
 Xa (Xc)
 else
 if P0 .gtr (Xh c:Int) 16 then
 Xa (Xc)
 else
 Zer Zr b a c a (Xh a:Int) 0):=by kernel_rfl
noncomputable def ZAs:Fn:=⟨8,[2],[],[],0,[],[],Tryz.f225,[.agg hs11],[.c (.bool)],[]⟩
def ZyG:ZAs.S.Ok Tryz.prog 225:=ZAs.ok Tryz.func225
noncomputable def ZFR (a c d:Int) (e:LL) (f h j k m n:Int) (o:Bool) (p q r s:Int):Option (Bool):=ZAs.S.g [.i a,.i c,.i d,.l e,.i f,.i h,.i j,.i k,.i m,.i n,.b o,.i p,.i q,.i r,.i s]
def Zpm (a b c:Int) (d:LL) (e f g h i j:Int) (k:Bool) (l m n o:Int):ZFR a b c d e f g h i j k l m n o =
 (Xa (((P0 .eql a 0)&&((P0 .eql b 0)&&((P0 .eql c 0)&&Xb))))):=by kernel_rfl
noncomputable def ZEk:Fn:=⟨43,[2],[],[],0,[],[],Tryz.f203,[.agg hs11],[.c (.bool)],[(225,ZAs.S),(164,Zyv.S),(95,F95.S),(99,F99.S)]⟩
def ZFk:ZEk.S.Ok Tryz.prog 203:=ZEk.ok Tryz.func203 ⟨ZyG,⟨Zuz,⟨Zx4,⟨ZDd,trivial⟩⟩⟩⟩
noncomputable def ZIb (a c d:Int) (e:LL) (f h j k m n:Int) (o:Bool) (p q r s:Int):Option (Bool):=ZEk.S.g [.i a,.i c,.i d,.l e,.i f,.i h,.i j,.i k,.i m,.i n,.b o,.i p,.i q,.i r,.i s]
def ZuN (d e f:Int) (g:LL) (h i j k l m:Int) (n:Bool) (o b c a:Int):ZIb d e f g h i j k l m n o b c a =
 (if P0 .lss o 0 then
 Xa (Xc)
 else
 if P0 .gtr o 1073741824 then
 Xa (Xc)
 else
 (ZFR d e f g h i j k l m n o b c a).bind fun q=>
 if q then
 (ZxL d e f g h i j k l m n 0 0 0 E0 0 0 0 0 0 0 Xc).bind fun p=>
 if p then
 Xa (((P0 .eql b 0)&&((P0 .eql c 0)&&((P0 .eql a 0)&&Xb))))
 else
 Xa (Xc)
 else
 (g95 d e f g h i j k l m n).bind fun p=>
 if p then
 if ((P0 .eql b 0)&&((P0 .eql c 0)&&((P0 .eql a 0)&&Xb))) then
 Xa (Xb)
 else
 (g99 b c a).bind fun r=>
 if r then
 Xa ((P0 .eql a 0))
 else
 Xa (Xc)
 else
 Xa (Xc)):=by kernel_rfl
noncomputable def ZA4:Fn:=⟨27,[4,5],[(2,[(3,.box [.int .i64,.int .i64,.int .i64]),(8,.c (.slice 15)),(9,.c (.int .i64)),(10,.c (.int .i64))])],[],0,[],[],Tryz.f204,[.c (.slice 15),.agg [.int .i64,.int .i64,.int .i64]],[.c (.int .i64),.c (.bool)],[(225,ZAs.S)]⟩
def ZIi:ZA4.S.Ok Tryz.prog 204:=ZA4.ok Tryz.func204 ⟨ZyG,trivial⟩
noncomputable def ZFM (a:LL) (b c d:Int):Option (Int×Bool):=ZA4.S.g [.l a,.i b,.i c,.i d]
noncomputable def Zeo (k:Nat) (a b c:Int) (d:LL) (e f:Int):Option (Int×Bool):=ZA4.lp [0] 0 r0 k [.i a,.i b,.i c,.l d,.i e,.i f]
def ZiT (k:Nat) (c d e:Int) (f:LL) (g b:Int):Zeo (k+1) c d e f g b =
 (if P0 .lss b g then
 Zj f b hs11 fun (a:Qt21)=>
 (ZFR a.1 a.2.1 a.2.2.1 a.2.2.2.1 (d4 a).1 (d4 a).2.1 (d6 a).1 (d6 a).2.1 (d8 a).1 (d8 a).2.1 (df a).1 (df a).2.1 (dg a).1 (dg a).2.1 (dh a)).bind fun h=>
 if (!h) then
 if ((P0 .eql a.1 c)&&((P0 .eql a.2.1 d)&&((P0 .eql a.2.2.1 e)&&Xb))) then
 Xa (b,Xb)
 else
 Zeo k c d e f g (P1 .add .i64 b 1)
 else
 Zeo k c d e f g (P1 .add .i64 b 1)
 else
 Xa (0,Xc)):=by kernel_rfl
def ZvM (a:LL) (b c d:Int):ZFM a b c d =
 (Zeo Zr b c d a (Xh a:Int) 0):=by kernel_rfl
noncomputable def ZAQ:Fn:=⟨32,[2],[(4,[(0,.c (.slice 15)),(10,.c (.slice 15)),(11,.c (.int .i64)),(12,.c (.int .i64))])],[],0,[],[],Tryz.f172,[.c (.slice 15)],[.c (.bool)],[(203,ZEk.S),(204,ZA4.S)]⟩
def ZIj:ZAQ.S.Ok Tryz.prog 172:=ZAQ.ok Tryz.func172 ⟨ZFk,⟨ZIi,trivial⟩⟩
noncomputable def ZGe (a:LL):Option (Bool):=ZAQ.S.g [.l a]
noncomputable def ZfN (k:Nat) (a b:LL) (c d:Int):Option (Bool):=ZAQ.lp [1,0] 0 r0 k [.l a,.l b,.i c,.i d]
def Zj0 (k:Nat) (c d:LL) (e b:Int):ZfN (k+1) c d e b =
 (if P0 .lss b e then
 Zj d b hs11 fun (a:Qt21)=>
 (ZIb a.1 a.2.1 a.2.2.1 a.2.2.2.1 (d4 a).1 (d4 a).2.1 (d6 a).1 (d6 a).2.1 (d8 a).1 (d8 a).2.1 (df a).1 (df a).2.1 (dg a).1 (dg a).2.1 (dh a)).bind fun f=>
 if (!f) then
 Xa (Xc)
 else
 Zy ((0:Int)≤b)<|
 Zy ((b:Int)≤(Xh c:Int))<|
 (ZFM (UK (XJ b) c) a.1 a.2.1 a.2.2.1).bind fun g=>
 if g.2 then
 Xa (Xc)
 else
 ZfN k c d e (P1 .add .i64 b 1)
 else
 Xa (Xb)):=by kernel_rfl
def Zv8 (a:LL):ZGe a =
 (if P0 .gtr (Xh a:Int) 64 then
 Xa (Xc)
 else
 ZfN Zr a a (Xh a:Int) 0):=by kernel_rfl
noncomputable def ZEo:Fn:=⟨6,[2],[],[],0,[],[],Tryz.f206,[.agg hs6],[.c (.bool)],[(90,F90.S)]⟩
def ZHv:ZEo.S.Ok Tryz.prog 206:=ZEo.ok Tryz.func206 ⟨ZJl,trivial⟩
noncomputable def ZHc (a c d e f h j k m n o p q r s t u v w x:Int) (y:LL) (z A C D E G:Int) (H:Bool):Option (Bool):=ZEo.S.g [.i a,.i c,.i d,.i e,.i f,.i h,.i j,.i k,.i m,.i n,.i o,.i p,.i q,.i r,.i s,.i t,.i u,.i v,.i w,.i x,.l y,.i z,.i A,.i C,.i D,.i E,.i G,.b H]
def Zws (a b c d e f g h i j k l m n o p q r s t:Int) (u:LL) (v w x y z A:Int) (C:Bool):ZHc a b c d e f g h i j k l m n o p q r s t u v w x y z A C =
 ((g90 a b c d e f g h i j k l m n o p q r s t u v w x y z A C).bind fun D=>
 Xa ((!D))):=by kernel_rfl
noncomputable def ZbS:Fn:=⟨19,[4],[(2,[(0,.c (.slice 28)),(1,.clo 206 []),(7,.c (.int .i64)),(8,.c (.int .i64))])],[],0,[],[],Tryz.f226,[.c (.slice 28),.clo 206 []],[.c (.int .i64)],[(206,ZEo.S)]⟩
def Zrm:ZbS.S.Ok Tryz.prog 226:=ZbS.ok Tryz.func226 ⟨ZHv,trivial⟩
noncomputable def ZgJ (a:LL):Option (Int):=ZbS.S.g [.l a]
noncomputable def Vi (k:Nat) (a:LL) (b c:Int):Option (Int):=ZbS.lp [0] 0 r0 k [.l a,.i b,.i c]
def ZbR (k:Nat) (c:LL) (d b:Int):Vi (k+1) c d b =
 (if P0 .lss b d then
 Zj c b hs6 fun (a:Qt10)=>
 (ZHc a.1 a.2.1 a.2.2.1 a.2.2.2.1 (d4 a).1 (d4 a).2.1 (d6 a).1 (d6 a).2.1 (d8 a).1 (d8 a).2.1 (df a).1 (df a).2.1 (dg a).1 (dg a).2.1 (dh a).1 (dh a).2.1 (P2 a).1 (P2 a).2.1 (d2 (P2 a)).1 (d2 (P2 a)).2.1 (d4 (P2 a)).1 (d4 (P2 a)).2.1 (d6 (P2 a)).1 (d6 (P2 a)).2.1 (d8 (P2 a)).1 (d8 (P2 a)).2.1 (df (P2 a)).1 (df (P2 a)).2).bind fun e=>
 if e then
 Xa (b)
 else
 Vi k c d (P1 .add .i64 b 1)
 else
 Xa ((-1))):=by kernel_rfl
def ZkP (a:LL):ZgJ a =
 (Vi Zr a (Xh a:Int) 0):=by kernel_rfl
noncomputable def Zda:Fn:=⟨9,[4],[],[],0,[],[],Tryz.f205,[.c (.slice 28),.clo 206 []],[.c (.bool)],[(226,ZbS.S)]⟩
def Zpk:Zda.S.Ok Tryz.prog 205:=Zda.ok Tryz.func205 ⟨Zrm,trivial⟩
noncomputable def ZgI (a:LL):Option (Bool):=Zda.S.g [.l a]
def Zkq (a:LL):ZgI a =
 ((ZgJ a).bind fun b=>
 Xa ((P0 .geq b 0))):=by kernel_rfl
noncomputable def ZDD:Fn:=⟨6,[2],[],[],0,[],[],Tryz.f239,[.c (.int .i64)],[.c (.bool)],[]⟩
def ZEL:ZDD.S.Ok Tryz.prog 239:=ZDD.ok Tryz.func239
noncomputable def ZDB (a:Int):Option (Bool):=ZDD.S.g [.i a]
def ZuK (a:Int):ZDB a =
 (Xa ((P0 .neq a a))):=by kernel_rfl
noncomputable def ZDs:Fn:=⟨20,[4],[],[],0,[],[],Tryz.f238,[.c (.int .i64),.c (.int .i64)],[.c (.int .i64)],[(239,ZDD.S)]⟩
def ZFC:ZDs.S.Ok Tryz.prog 238:=ZDs.ok Tryz.func238 ⟨ZEL,trivial⟩
noncomputable def ZAm (a b:Int):Option (Int):=ZDs.S.g [.i a,.i b]
def Zxg (a b:Int):ZAm a b =
 ((ZDB a).bind fun d=>
 (ZDB b).bind fun c=>
 if d then
 if c then
 Xa (0)
 else
 Xa ((-1))
 else
 if c then
 Xa (1)
 else
 if P0 .lss a b then
 Xa ((-1))
 else
 if P0 .gtr a b then
 Xa (1)
 else
 Xa (0)):=by kernel_rfl
noncomputable def ZAh:Fn:=⟨18,[2],[(3,[(3,.c (.int .i64)),(6,.c (.slice 1)),(7,.c (.int .i64)),(8,.c (.int .i64))])],[],0,[],[],Tryz.f237,[.c (.slice 1)],[.c (.int .i64)],[]⟩
def ZEW:ZAh.S.Ok Tryz.prog 237:=ZAh.ok Tryz.func237
noncomputable def ZEI (a:LL):Option (Int):=ZAh.S.g [.l a]
noncomputable def ZqP (k:Nat) (a:Int) (b:LL) (c d:Int):Option (Int):=ZAh.lp [0] 0 r0 k [.i a,.l b,.i c,.i d]
def Za6 (k:Nat) (a:Int) (c:LL) (d b:Int):ZqP (k+1) a c d b =
 (if P0 .lss b d then
 Zj c b [.int .i64] fun (e:Int)=>
 if P0 .neq e a then
 Xa (e)
 else
 ZqP k a c d (P1 .add .i64 b 1)
 else
 Xa (a)):=by kernel_rfl
def ZvF (a:LL):ZEI a =
 (ZqP Zr 0 a (Xh a:Int) 0):=by kernel_rfl
noncomputable def ZDE:Fn:=⟨22,[4],[],[],0,[],[],Tryz.f227,[.agg [.int .i64,.int .i64,.int .i64],.agg [.int .i64,.int .i64,.int .i64]],[.c (.int .i64)],[(238,ZDs.S),(237,ZAh.S)]⟩
def ZFj:ZDE.S.Ok Tryz.prog 227:=ZDE.ok Tryz.func227 ⟨ZFC,⟨ZEW,trivial⟩⟩
noncomputable def ZEY (a b c d e f:Int):Option (Int):=ZDE.S.g [.i a,.i b,.i c,.i d,.i e,.i f]
def Zxb (a b c d e f:Int):ZEY a b c d e f =
 ((ZAm a d).bind fun g=>
 (ZAm b e).bind fun h=>
 (ZAm c f).bind fun i=>
 (ZEI (((E0++[[I g]])++[[I h]])++[[I i]])).bind fun j=>
 Xa (j)):=by kernel_rfl
noncomputable def ZzI:Fn:=⟨9,[4],[],[],0,[],[],Tryz.f208,[.agg [.int .i64,.int .i64,.int .i64],.agg [.int .i64,.int .i64,.int .i64]],[.c (.bool)],[(227,ZDE.S)]⟩
def ZzG:ZzI.S.Ok Tryz.prog 208:=ZzI.ok Tryz.func208 ⟨ZFj,trivial⟩
noncomputable def ZD1 (a b c d e f:Int):Option (Bool):=ZzI.S.g [.i a,.i b,.i c,.i d,.i e,.i f]
def ZvR (a b c d e f:Int):ZD1 a b c d e f =
 ((ZEY a b c d e f).bind fun g=>
 Xa ((P0 .lss g 0))):=by kernel_rfl
noncomputable def ZD2:Fn:=⟨17,[5],[],[2],0,[],[],Tryz.f207,[.c (.int .i64),.c (.int .i64),.box [.slice 28]],[.c (.bool)],[(208,ZzI.S)]⟩
def ZGc:ZD2.S.Ok Tryz.prog 207:=ZD2.ok Tryz.func207 ⟨ZzG,trivial⟩
noncomputable def ZHf (a b:Int) (c:LL):Option (Bool×LL):=ZD2.S.g [.i a,.i b,.l c]
def Zup (d e:Int) (a:LL):ZHf d e a =
 (Zj a d hs6 fun (b:Qt10)=>
 Zj a e hs6 fun (c:Qt10)=>
 (ZD1 b.1 b.2.1 b.2.2.1 c.1 c.2.1 c.2.2.1).bind fun f=>
 Xa (f,a)):=by kernel_rfl
noncomputable def ZbF:Fn:=⟨17,[4],[(2,[(0,.c (.int .i64)),(1,.clo 207 [17]),(5,.c (.int .i64)),(17,.gbox [.slice 28])])],[],1,[],[],Tryz.f102,[.c (.int .i64),.clo 207 [17],.dead,.dead,.dead,.dead,.dead,.dead,.dead,.dead,.dead,.dead,.dead,.dead,.dead,.dead,.dead,.gbox [.slice 28]],[.c (.bool)],[(207,ZD2.S)]⟩
def Zqy:ZbF.S.Ok Tryz.prog 102:=ZbF.ok Tryz.func102 ⟨ZGc,trivial⟩
noncomputable def Zgy (a:Int) (b:LL):Option (Bool×LL):=ZbF.S.g [.i a,.l b]
noncomputable def Vj (k:Nat) (a b:Int) (c:LL):Option (Bool×LL):=ZbF.lp [0] 0 r0 k [.i a,.i b,.l c]
def Zbw (k:Nat) (b a:Int) (c:LL):Vj (k+1) b a c =
 (if P0 .lss a b then
 (ZHf (P1 .sub .i64 a 1) a c).bind fun d=>
 if (!d.1) then
 Xa (Xc,d.2)
 else
 Vj k b (P1 .add .i64 a 1) d.2
 else
 Xa (Xb,c)):=by kernel_rfl
def Zlo (a:Int) (b:LL):Zgy a b =
 (Vj Zr a 1 b):=by kernel_rfl
noncomputable def ZDw:Fn:=⟨12,[2],[],[],0,[],[],Tryz.f173,[.c (.slice 28)],[.c (.bool)],[(205,Zda.S),(102,ZbF.S)]⟩
def ZGW:ZDw.S.Ok Tryz.prog 173:=ZDw.ok Tryz.func173 ⟨Zpk,⟨Zqy,trivial⟩⟩
noncomputable def ZHS (a:LL):Option (Bool):=ZDw.S.g [.l a]
def Zva (a:LL):ZHS a =
 ((ZgI a).bind fun b=>
 if (!b) then
 (Zgy (Xh a:Int) a).bind fun c=>
 Xa (c.1)
 else
 Xa (Xc)):=by kernel_rfl
noncomputable def ZD9:Fn:=⟨13,[2],[],[],0,[],[],Tryz.f210,[.agg [.int .i64,.int .i64,.int .i64,.int .i64]],[.c (.bool)],[(89,F89.S),(91,F91.S)]⟩
def ZFW:ZD9.S.Ok Tryz.prog 210:=ZD9.ok Tryz.func210 ⟨ZEd,⟨ZDr,trivial⟩⟩
noncomputable def ZHP (a b c d:Int):Option (Bool):=ZD9.S.g [.i a,.i b,.i c,.i d]
def Zxp (a b c d:Int):ZHP a b c d =
 ((g89 a).bind fun e=>
 if (!e) then
 Xa (Xb)
 else
 (g91 b c d).bind fun f=>
 Xa ((!f))):=by kernel_rfl
noncomputable def Zbk:Fn:=⟨19,[4],[(2,[(0,.c (.slice 4)),(1,.clo 210 []),(7,.c (.int .i64)),(8,.c (.int .i64))])],[],0,[],[],Tryz.f228,[.c (.slice 4),.clo 210 []],[.c (.int .i64)],[(210,ZD9.S)]⟩
def Zpw:Zbk.S.Ok Tryz.prog 228:=Zbk.ok Tryz.func228 ⟨ZFW,trivial⟩
noncomputable def Zhf (a:LL):Option (Int):=Zbk.S.g [.l a]
noncomputable def Vc (k:Nat) (a:LL) (b c:Int):Option (Int):=Zbk.lp [0] 0 r0 k [.l a,.i b,.i c]
def Za7 (k:Nat) (c:LL) (d a:Int):Vc (k+1) c d a =
 (if P0 .lss a d then
 Zj c a [.int .i64,.int .i64,.int .i64,.int .i64] fun (b:Int×Int×Int×Int)=>
 (ZHP b.1 b.2.1 b.2.2.1 b.2.2.2).bind fun e=>
 if e then
 Xa (a)
 else
 Vc k c d (P1 .add .i64 a 1)
 else
 Xa ((-1))):=by kernel_rfl
def ZkO (a:LL):Zhf a =
 (Vc Zr a (Xh a:Int) 0):=by kernel_rfl
noncomputable def Zdr:Fn:=⟨9,[4],[],[],0,[],[],Tryz.f209,[.c (.slice 4),.clo 210 []],[.c (.bool)],[(228,Zbk.S)]⟩
def Zp3:Zdr.S.Ok Tryz.prog 209:=Zdr.ok Tryz.func209 ⟨Zpw,trivial⟩
noncomputable def Zg2 (a:LL):Option (Bool):=Zdr.S.g [.l a]
def Zkv (a:LL):Zg2 a =
 ((Zhf a).bind fun b=>
 Xa ((P0 .geq b 0))):=by kernel_rfl
noncomputable def ZDZ:Fn:=⟨17,[5],[],[2],0,[],[],Tryz.f211,[.c (.int .i64),.c (.int .i64),.box [.slice 4]],[.c (.bool)],[]⟩
def ZFV:ZDZ.S.Ok Tryz.prog 211:=ZDZ.ok Tryz.func211
noncomputable def ZIc (a b:Int) (c:LL):Option (Bool×LL):=ZDZ.S.g [.i a,.i b,.l c]
def Zxc (b c:Int) (a:LL):ZIc b c a =
 (Zj a b [.int .i64,.int .i64,.int .i64,.int .i64] fun (d:Int×Int×Int×Int)=>
 Zj a c [.int .i64,.int .i64,.int .i64,.int .i64] fun (e:Int×Int×Int×Int)=>
 Xa ((P0 .lss d.1 e.1),a)):=by kernel_rfl
noncomputable def Zb1:Fn:=⟨17,[4],[(2,[(0,.c (.int .i64)),(1,.clo 211 [17]),(5,.c (.int .i64)),(17,.gbox [.slice 4])])],[],1,[],[],Tryz.f102,[.c (.int .i64),.clo 211 [17],.dead,.dead,.dead,.dead,.dead,.dead,.dead,.dead,.dead,.dead,.dead,.dead,.dead,.dead,.dead,.gbox [.slice 4]],[.c (.bool)],[(211,ZDZ.S)]⟩
def ZpH:Zb1.S.Ok Tryz.prog 102:=Zb1.ok Tryz.func102 ⟨ZFV,trivial⟩
noncomputable def Zhn (a:Int) (b:LL):Option (Bool×LL):=Zb1.S.g [.i a,.l b]
noncomputable def Vh (k:Nat) (a b:Int) (c:LL):Option (Bool×LL):=Zb1.lp [0] 0 r0 k [.i a,.i b,.l c]
def ZbM (k:Nat) (b a:Int) (c:LL):Vh (k+1) b a c =
 (if P0 .lss a b then
 (ZIc (P1 .sub .i64 a 1) a c).bind fun d=>
 if (!d.1) then
 Xa (Xc,d.2)
 else
 Vh k b (P1 .add .i64 a 1) d.2
 else
 Xa (Xb,c)):=by kernel_rfl
def ZkD (a:Int) (b:LL):Zhn a b =
 (Vh Zr a 1 b):=by kernel_rfl
noncomputable def ZDV:Fn:=⟨12,[2],[],[],0,[],[],Tryz.f174,[.c (.slice 4)],[.c (.bool)],[(209,Zdr.S),(102,Zb1.S)]⟩
def ZFu:ZDV.S.Ok Tryz.prog 174:=ZDV.ok Tryz.func174 ⟨Zp3,⟨ZpH,trivial⟩⟩
noncomputable def ZGM (a:LL):Option (Bool):=ZDV.S.g [.l a]
def Zwb (a:LL):ZGM a =
 ((Zg2 a).bind fun b=>
 if (!b) then
 (Zhn (Xh a:Int) a).bind fun c=>
 Xa (c.1)
 else
 Xa (Xc)):=by kernel_rfl
noncomputable def ZD6:Fn:=⟨17,[2],[],[],0,[],[],Tryz.f213,[.agg [.int .i64,.int .i64]],[.c (.bool)],[(92,F92.S)]⟩
def ZFn:ZD6.S.Ok Tryz.prog 213:=ZD6.ok Tryz.func213 ⟨ZI7,trivial⟩
noncomputable def ZFS (a b:Int):Option (Bool):=ZD6.S.g [.i a,.i b]
def ZuX (a b:Int):ZFS a b =
 (if P0 .lss a 1 then
 Xa (Xb)
 else
 if P0 .gtr a 1073741824 then
 Xa (Xb)
 else
 (g92 b).bind fun c=>
 Xa ((!c))):=by kernel_rfl
noncomputable def Zcc:Fn:=⟨19,[4],[(2,[(0,.c (.slice 2)),(1,.clo 213 []),(7,.c (.int .i64)),(8,.c (.int .i64))])],[],0,[],[],Tryz.f229,[.c (.slice 2),.clo 213 []],[.c (.int .i64)],[(213,ZD6.S)]⟩
def ZpB:Zcc.S.Ok Tryz.prog 229:=Zcc.ok Tryz.func229 ⟨ZFn,trivial⟩
noncomputable def Zgl (a:LL):Option (Int):=Zcc.S.g [.l a]
noncomputable def Vg (k:Nat) (a:LL) (b c:Int):Option (Int):=Zcc.lp [0] 0 r0 k [.l a,.i b,.i c]
def Za8 (k:Nat) (b:LL) (c a:Int):Vg (k+1) b c a =
 (if P0 .lss a c then
 Zj b a [.int .i64,.int .i64] fun (d:Int×Int)=>
 (ZFS d.1 d.2).bind fun e=>
 if e then
 Xa (a)
 else
 Vg k b c (P1 .add .i64 a 1)
 else
 Xa ((-1))):=by kernel_rfl
def Zlr (a:LL):Zgl a =
 (Vg Zr a (Xh a:Int) 0):=by kernel_rfl
noncomputable def Zdq:Fn:=⟨9,[4],[],[],0,[],[],Tryz.f212,[.c (.slice 2),.clo 213 []],[.c (.bool)],[(229,Zcc.S)]⟩
def ZpR:Zdq.S.Ok Tryz.prog 212:=Zdq.ok Tryz.func212 ⟨ZpB,trivial⟩
noncomputable def Zg9 (a:LL):Option (Bool):=Zdq.S.g [.l a]
def ZkT (a:LL):Zg9 a =
 ((Zgl a).bind fun b=>
 Xa ((P0 .geq b 0))):=by kernel_rfl
noncomputable def ZEj:Fn:=⟨17,[5],[],[2],0,[],[],Tryz.f214,[.c (.int .i64),.c (.int .i64),.box [.slice 2]],[.c (.bool)],[]⟩
def ZGq:ZEj.S.Ok Tryz.prog 214:=ZEj.ok Tryz.func214
noncomputable def ZF0 (a b:Int) (c:LL):Option (Bool×LL):=ZEj.S.g [.i a,.i b,.l c]
def Zwt (b c:Int) (a:LL):ZF0 b c a =
 (Zj a b [.int .i64,.int .i64] fun (d:Int×Int)=>
 Zj a c [.int .i64,.int .i64] fun (e:Int×Int)=>
 Xa ((P0 .lss d.1 e.1),a)):=by kernel_rfl
noncomputable def Zca:Fn:=⟨17,[4],[(2,[(0,.c (.int .i64)),(1,.clo 214 [17]),(5,.c (.int .i64)),(17,.gbox [.slice 2])])],[],1,[],[],Tryz.f102,[.c (.int .i64),.clo 214 [17],.dead,.dead,.dead,.dead,.dead,.dead,.dead,.dead,.dead,.dead,.dead,.dead,.dead,.dead,.dead,.gbox [.slice 2]],[.c (.bool)],[(214,ZEj.S)]⟩
def Zqh:Zca.S.Ok Tryz.prog 102:=Zca.ok Tryz.func102 ⟨ZGq,trivial⟩
noncomputable def Zg5 (a:Int) (b:LL):Option (Bool×LL):=Zca.S.g [.i a,.l b]
noncomputable def K5 (k:Nat) (a b:Int) (c:LL):Option (Bool×LL):=Zca.lp [0] 0 r0 k [.i a,.i b,.l c]
def ZbT (k:Nat) (b a:Int) (c:LL):K5 (k+1) b a c =
 (if P0 .lss a b then
 (ZF0 (P1 .sub .i64 a 1) a c).bind fun d=>
 if (!d.1) then
 Xa (Xc,d.2)
 else
 K5 k b (P1 .add .i64 a 1) d.2
 else
 Xa (Xb,c)):=by kernel_rfl
def Zkr (a:Int) (b:LL):Zg5 a b =
 (K5 Zr a 1 b):=by kernel_rfl
noncomputable def ZDt:Fn:=⟨12,[2],[],[],0,[],[],Tryz.f175,[.c (.slice 2)],[.c (.bool)],[(212,Zdq.S),(102,Zca.S)]⟩
def ZEN:ZDt.S.Ok Tryz.prog 175:=ZDt.ok Tryz.func175 ⟨ZpR,⟨Zqh,trivial⟩⟩
noncomputable def ZHp (a:LL):Option (Bool):=ZDt.S.g [.l a]
def ZwL (a:LL):ZHp a =
 ((Zg9 a).bind fun b=>
 if (!b) then
 (Zg5 (Xh a:Int) a).bind fun c=>
 Xa (c.1)
 else
 Xa (Xc)):=by kernel_rfl
noncomputable def ZDl:Fn:=⟨19,[2],[],[],0,[],[],Tryz.f216,[.agg hs12],[.c (.bool)],[(34,F34.S),(96,F96.S),(95,F95.S)]⟩
def ZEV:ZDl.S.Ok Tryz.prog 216:=ZDl.ok Tryz.func216 ⟨ZuM,⟨ZI3,⟨Zx4,trivial⟩⟩⟩
noncomputable def ZGk (a c d e f:Int) (h:LL) (j k m n o p:Int) (q:Bool):Option (Bool):=ZDl.S.g [.i a,.i c,.i d,.i e,.i f,.l h,.i j,.i k,.i m,.i n,.i o,.i p,.b q]
def ZvU (a b c d e:Int) (f:LL) (g h i j k l:Int) (m:Bool):ZGk a b c d e f g h i j k l m =
 ((g34 a).bind fun n=>
 if (!n) then
 Xa (Xb)
 else
 (g96 b).bind fun o=>
 if (!o) then
 Xa (Xb)
 else
 (g95 c d e f g h i j k l m).bind fun p=>
 Xa ((!p))):=by kernel_rfl
noncomputable def Zbg:Fn:=⟨19,[4],[(2,[(0,.c (.slice 13)),(1,.clo 216 []),(7,.c (.int .i64)),(8,.c (.int .i64))])],[],0,[],[],Tryz.f230,[.c (.slice 13),.clo 216 []],[.c (.int .i64)],[(216,ZDl.S)]⟩
def ZpX:Zbg.S.Ok Tryz.prog 230:=Zbg.ok Tryz.func230 ⟨ZEV,trivial⟩
noncomputable def ZgN (a:LL):Option (Int):=Zbg.S.g [.l a]
noncomputable def Vf (k:Nat) (a:LL) (b c:Int):Option (Int):=Zbg.lp [0] 0 r0 k [.l a,.i b,.i c]
def Zb5 (k:Nat) (c:LL) (d b:Int):Vf (k+1) c d b =
 (if P0 .lss b d then
 Zj c b hs12 fun (a:Qt25)=>
 (ZGk a.1 a.2.1 a.2.2.1 a.2.2.2.1 (d4 a).1 (d4 a).2.1 (d6 a).1 (d6 a).2.1 (d8 a).1 (d8 a).2.1 (df a).1 (df a).2.1 (dg a)).bind fun e=>
 if e then
 Xa (b)
 else
 Vf k c d (P1 .add .i64 b 1)
 else
 Xa ((-1))):=by kernel_rfl
def ZkH (a:LL):ZgN a =
 (Vf Zr a (Xh a:Int) 0):=by kernel_rfl
noncomputable def Zc6:Fn:=⟨9,[4],[],[],0,[],[],Tryz.f215,[.c (.slice 13),.clo 216 []],[.c (.bool)],[(230,Zbg.S)]⟩
def Zps:Zc6.S.Ok Tryz.prog 215:=Zc6.ok Tryz.func215 ⟨ZpX,trivial⟩
noncomputable def ZhC (a:LL):Option (Bool):=Zc6.S.g [.l a]
def Zkd (a:LL):ZhC a =
 ((ZgN a).bind fun b=>
 Xa ((P0 .geq b 0))):=by kernel_rfl
noncomputable def ZDi:Fn:=⟨19,[5],[],[2],0,[],[],Tryz.f217,[.c (.int .i64),.c (.int .i64),.box [.slice 13]],[.c (.bool)],[(208,ZzI.S)]⟩
def ZGT:ZDi.S.Ok Tryz.prog 217:=ZDi.ok Tryz.func217 ⟨ZzG,trivial⟩
noncomputable def ZFx (a b:Int) (c:LL):Option (Bool×LL):=ZDi.S.g [.i a,.i b,.l c]
def ZxO (d e:Int) (a:LL):ZFx d e a =
 (Zj a d hs12 fun (b:Qt25)=>
 Zj a e hs12 fun (c:Qt25)=>
 (ZD1 b.2.2.1 b.2.2.2.1 (d4 b).1 c.2.2.1 c.2.2.2.1 (d4 c).1).bind fun f=>
 Xa (f,a)):=by kernel_rfl
noncomputable def ZbL:Fn:=⟨17,[4],[(2,[(0,.c (.int .i64)),(1,.clo 217 [17]),(5,.c (.int .i64)),(17,.gbox [.slice 13])])],[],1,[],[],Tryz.f102,[.c (.int .i64),.clo 217 [17],.dead,.dead,.dead,.dead,.dead,.dead,.dead,.dead,.dead,.dead,.dead,.dead,.dead,.dead,.dead,.gbox [.slice 13]],[.c (.bool)],[(217,ZDi.S)]⟩
def Zq9:ZbL.S.Ok Tryz.prog 102:=ZbL.ok Tryz.func102 ⟨ZGT,trivial⟩
noncomputable def Zgs (a:Int) (b:LL):Option (Bool×LL):=ZbL.S.g [.i a,.l b]
noncomputable def Vd (k:Nat) (a b:Int) (c:LL):Option (Bool×LL):=ZbL.lp [0] 0 r0 k [.i a,.i b,.l c]
def Zb8 (k:Nat) (b a:Int) (c:LL):Vd (k+1) b a c =
 (if P0 .lss a b then
 (ZFx (P1 .sub .i64 a 1) a c).bind fun d=>
 if (!d.1) then
 Xa (Xc,d.2)
 else
 Vd k b (P1 .add .i64 a 1) d.2
 else
 Xa (Xb,c)):=by kernel_rfl
def Zlm (a:Int) (b:LL):Zgs a b =
 (Vd Zr a 1 b):=by kernel_rfl
noncomputable def ZDg:Fn:=⟨12,[2],[],[],0,[],[],Tryz.f176,[.c (.slice 13)],[.c (.bool)],[(215,Zc6.S),(102,ZbL.S)]⟩
def ZGC:ZDg.S.Ok Tryz.prog 176:=ZDg.ok Tryz.func176 ⟨Zps,⟨Zq9,trivial⟩⟩
noncomputable def ZFl (a:LL):Option (Bool):=ZDg.S.g [.l a]
def ZxJ (a:LL):ZFl a =
 ((ZhC a).bind fun b=>
 if (!b) then
 (Zgs (Xh a:Int) a).bind fun c=>
 Xa (c.1)
 else
 Xa (Xc)):=by kernel_rfl
noncomputable def ZEf:Fn:=⟨6,[2],[],[],0,[],[],Tryz.f177,[.agg [.int .i64,.int .i64,.int .i64]],[.c (.bool)],[(91,F91.S)]⟩
def ZFo:ZEf.S.Ok Tryz.prog 177:=ZEf.ok Tryz.func177 ⟨ZDr,trivial⟩
noncomputable def ZG4 (a b c:Int):Option (Bool):=ZEf.S.g [.i a,.i b,.i c]
def Zum (a b c:Int):ZG4 a b c =
 ((g91 a b c).bind fun d=>
 Xa ((!d))):=by kernel_rfl
noncomputable def Zbv:Fn:=⟨19,[4],[(2,[(0,.c (.slice 3)),(1,.clo 177 []),(7,.c (.int .i64)),(8,.c (.int .i64))])],[],0,[],[],Tryz.f168,[.c (.slice 3),.clo 177 []],[.c (.int .i64)],[(177,ZEf.S)]⟩
def Zpx:Zbv.S.Ok Tryz.prog 168:=Zbv.ok Tryz.func168 ⟨ZFo,trivial⟩
noncomputable def Zhw (a:LL):Option (Int):=Zbv.S.g [.l a]
noncomputable def Va (k:Nat) (a:LL) (b c:Int):Option (Int):=Zbv.lp [0] 0 r0 k [.l a,.i b,.i c]
def Zb0 (k:Nat) (b:LL) (c a:Int):Va (k+1) b c a =
 (if P0 .lss a c then
 Zj b a [.int .i64,.int .i64,.int .i64] fun (d:Int×Int×Int)=>
 (ZG4 d.1 d.2.1 d.2.2).bind fun e=>
 if e then
 Xa (a)
 else
 Va k b c (P1 .add .i64 a 1)
 else
 Xa ((-1))):=by kernel_rfl
def Zks (a:LL):Zhw a =
 (Va Zr a (Xh a:Int) 0):=by kernel_rfl
noncomputable def Zhr:Fn:=⟨9,[4],[],[],0,[],[],Tryz.f97,[.c (.slice 3),.clo 177 []],[.c (.bool)],[(168,Zbv.S)]⟩
def Zs1:Zhr.S.Ok Tryz.prog 97:=Zhr.ok Tryz.func97 ⟨Zpx,trivial⟩
noncomputable def Zkt (a:LL):Option (Bool):=Zhr.S.g [.l a]
def Zog (a:LL):Zkt a =
 ((Zhw a).bind fun b=>
 Xa ((P0 .geq b 0))):=by kernel_rfl
noncomputable def Zzy:Fn:=⟨32,[2],[],[],0,[],[],Tryz.f106,[.agg hs30],[.c (.bool)],[(172,ZAQ.S),(173,ZDw.S),(174,ZDV.S),(175,ZDt.S),(176,ZDg.S),(97,Zhr.S)]⟩
def ZAr:Zzy.S.Ok Tryz.prog 106:=Zzy.ok Tryz.func106 ⟨ZIj,⟨ZGW,⟨ZFu,⟨ZEN,⟨ZGC,⟨Zs1,trivial⟩⟩⟩⟩⟩⟩
noncomputable def ZB0 (a b c d e f:LL):Option (Bool):=Zzy.S.g [.l a,.l b,.l c,.l d,.l e,.l f]
def ZwP (a b c d e f:LL):ZB0 a b c d e f =
 ((ZGe a).bind fun g=>
 if g then
 (ZHS b).bind fun h=>
 if h then
 (ZGM c).bind fun i=>
 if i then
 (ZHp d).bind fun j=>
 if j then
 (ZFl e).bind fun k=>
 if k then
 (Zkt f).bind fun l=>
 Xa ((!l))
 else
 Xa (Xc)
 else
 Xa (Xc)
 else
 Xa (Xc)
 else
 Xa (Xc)
 else
 Xa (Xc)):=by kernel_rfl
noncomputable def ZDj:Fn:=⟨26,[2],[],[],0,[],[],Tryz.f104,[.agg hs7],[.c (.bool)],[(34,F34.S),(105,Zx6.S),(106,Zzy.S)]⟩
def ZHa:ZDj.S.Ok Tryz.prog 104:=ZDj.ok Tryz.func104 ⟨ZuM,⟨ZBB,⟨ZAr,trivial⟩⟩⟩
noncomputable def ZG3 (a c:Int) (d e f h j k m n:LL) (o:Bool) (p:Int) (q r s t u v w x:LL):Option (Bool):=ZDj.S.g [.i a,.i c,.l d,.l e,.l f,.l h,.l j,.l k,.l m,.l n,.b o,.i p,.l q,.l r,.l s,.l t,.l u,.l v,.l w,.l x]
def Zvb (a b:Int) (c d e f g h i j:LL) (t:Bool) (k:Int) (l m n o p q r s:LL):ZG3 a b c d e f g h i j t k l m n o p q r s =
 ((g34 a).bind fun u=>
 if u then
 (ZzM b c d).bind fun v=>
 if v then
 (ZB0 e f g h i j).bind fun w=>
 if w then
 (ZzM k l m).bind fun x=>
 if x then
 (ZB0 n o p q r s).bind fun y=>
 Xa (y)
 else
 Xa (Xc)
 else
 Xa (Xc)
 else
 Xa (Xc)
 else
 Xa (Xc)):=by kernel_rfl
noncomputable def F94:Fn:=⟨6,[2],[],[],0,[],[],Tryz.f94,[.agg hs16],[.c (.bool)],[(95,F95.S)]⟩
def ZKT:F94.S.Ok Tryz.prog 94:=F94.ok Tryz.func94 ⟨Zx4,trivial⟩
noncomputable def g94 (a c d:Int) (e:LL) (f h j k m n:Int) (o:Bool):Option (Bool):=F94.S.g [.i a,.i c,.i d,.l e,.i f,.i h,.i j,.i k,.i m,.i n,.b o]
def ZAw (a b c:Int) (d:LL) (e f g h i j:Int) (k:Bool):g94 a b c d e f g h i j k =
 ((g95 a b c d e f g h i j k).bind fun l=>
 Xa ((!l))):=by kernel_rfl
noncomputable def Zee:Fn:=⟨19,[4],[(2,[(0,.c (.slice 11)),(1,.clo 94 []),(7,.c (.int .i64)),(8,.c (.int .i64))])],[],0,[],[],Tryz.f165,[.c (.slice 11),.clo 94 []],[.c (.int .i64)],[(94,F94.S)]⟩
def ZsH:Zee.S.Ok Tryz.prog 165:=Zee.ok Tryz.func165 ⟨ZKT,trivial⟩
noncomputable def Zk6 (a:LL):Option (Int):=Zee.S.g [.l a]
noncomputable def VZ (k:Nat) (a:LL) (b c:Int):Option (Int):=Zee.lp [0] 0 r0 k [.l a,.i b,.i c]
def ZcF (k:Nat) (c:LL) (d b:Int):VZ (k+1) c d b =
 (if P0 .lss b d then
 Zj c b hs16 fun (a:Qt31)=>
 (g94 a.1 a.2.1 a.2.2.1 a.2.2.2.1 (d4 a).1 (d4 a).2.1 (d6 a).1 (d6 a).2.1 (d8 a).1 (d8 a).2.1 a.2.2.2.2.2.2.2.2.2.2).bind fun e=>
 if e then
 Xa (b)
 else
 VZ k c d (P1 .add .i64 b 1)
 else
 Xa ((-1))):=by kernel_rfl
def Zoi (a:LL):Zk6 a =
 (VZ Zr a (Xh a:Int) 0):=by kernel_rfl
noncomputable def Zmg:Fn:=⟨9,[4],[],[],0,[],[],Tryz.f93,[.c (.slice 11),.clo 94 []],[.c (.bool)],[(165,Zee.S)]⟩
def ZvY:Zmg.S.Ok Tryz.prog 93:=Zmg.ok Tryz.func93 ⟨ZsH,trivial⟩
noncomputable def ZfI (a:LL):Option (Bool):=Zmg.S.g [.l a]
def Zo3 (a:LL):ZfI a =
 ((Zk6 a).bind fun b=>
 Xa ((P0 .geq b 0))):=by kernel_rfl
noncomputable def F98:Fn:=⟨6,[2],[],[],0,[],[],Tryz.f98,[.agg [.int .i64,.int .i64,.int .i64]],[.c (.bool)],[(99,F99.S)]⟩
def ZKl:F98.S.Ok Tryz.prog 98:=F98.ok Tryz.func98 ⟨ZDd,trivial⟩
noncomputable def g98 (a b c:Int):Option (Bool):=F98.S.g [.i a,.i b,.i c]
def ZCS (a b c:Int):g98 a b c =
 ((g99 a b c).bind fun d=>
 Xa ((!d))):=by kernel_rfl
noncomputable def ZdA:Fn:=⟨19,[4],[(2,[(0,.c (.slice 3)),(1,.clo 98 []),(7,.c (.int .i64)),(8,.c (.int .i64))])],[],0,[],[],Tryz.f168,[.c (.slice 3),.clo 98 []],[.c (.int .i64)],[(98,F98.S)]⟩
def Zs8:ZdA.S.Ok Tryz.prog 168:=ZdA.ok Tryz.func168 ⟨ZKl,trivial⟩
noncomputable def ZkV (a:LL):Option (Int):=ZdA.S.g [.l a]
noncomputable def VY (k:Nat) (a:LL) (b c:Int):Option (Int):=ZdA.lp [0] 0 r0 k [.l a,.i b,.i c]
def ZcR (k:Nat) (b:LL) (c a:Int):VY (k+1) b c a =
 (if P0 .lss a c then
 Zj b a [.int .i64,.int .i64,.int .i64] fun (d:Int×Int×Int)=>
 (g98 d.1 d.2.1 d.2.2).bind fun e=>
 if e then
 Xa (a)
 else
 VY k b c (P1 .add .i64 a 1)
 else
 Xa ((-1))):=by kernel_rfl
def Znz (a:LL):ZkV a =
 (VY Zr a (Xh a:Int) 0):=by kernel_rfl
noncomputable def Znx:Fn:=⟨9,[4],[],[],0,[],[],Tryz.f97,[.c (.slice 3),.clo 98 []],[.c (.bool)],[(168,ZdA.S)]⟩
def Zvo:Znx.S.Ok Tryz.prog 97:=Znx.ok Tryz.func97 ⟨Zs8,trivial⟩
noncomputable def Zl9 (a:LL):Option (Bool):=Znx.S.g [.l a]
def Zq3 (a:LL):Zl9 a =
 ((ZkV a).bind fun b=>
 Xa ((P0 .geq b 0))):=by kernel_rfl
noncomputable def ZC7:Fn:=⟨6,[2],[],[],0,[],[],Tryz.f101,[.c (.int .i64)],[.c (.bool)],[(34,F34.S)]⟩
def ZFH:ZC7.S.Ok Tryz.prog 101:=ZC7.ok Tryz.func101 ⟨ZuM,trivial⟩
noncomputable def ZHE (a:Int):Option (Bool):=ZC7.S.g [.i a]
def Zxe (a:Int):ZHE a =
 ((g34 a).bind fun b=>
 Xa ((!b))):=by kernel_rfl
noncomputable def ZbZ:Fn:=⟨19,[4],[(2,[(0,.c (.slice 1)),(1,.clo 101 []),(7,.c (.int .i64)),(8,.c (.int .i64))])],[],0,[],[],Tryz.f169,[.c (.slice 1),.clo 101 []],[.c (.int .i64)],[(101,ZC7.S)]⟩
def Zqs:ZbZ.S.Ok Tryz.prog 169:=ZbZ.ok Tryz.func169 ⟨ZFH,trivial⟩
noncomputable def Zgp (a:LL):Option (Int):=ZbZ.S.g [.l a]
noncomputable def K6 (k:Nat) (a:LL) (b c:Int):Option (Int):=ZbZ.lp [0] 0 r0 k [.l a,.i b,.i c]
def Zb3 (k:Nat) (b:LL) (c a:Int):K6 (k+1) b c a =
 (if P0 .lss a c then
 Zj b a [.int .i64] fun (d:Int)=>
 (ZHE d).bind fun e=>
 if e then
 Xa (a)
 else
 K6 k b c (P1 .add .i64 a 1)
 else
 Xa ((-1))):=by kernel_rfl
def Zkx (a:LL):Zgp a =
 (K6 Zr a (Xh a:Int) 0):=by kernel_rfl
noncomputable def Zdu:Fn:=⟨9,[4],[],[],0,[],[],Tryz.f100,[.c (.slice 1),.clo 101 []],[.c (.bool)],[(169,ZbZ.S)]⟩
def Zp9:Zdu.S.Ok Tryz.prog 100:=Zdu.ok Tryz.func100 ⟨Zqs,trivial⟩
noncomputable def Zdg (a:LL):Option (Bool):=Zdu.S.g [.l a]
def Zk8 (a:LL):Zdg a =
 ((Zgp a).bind fun b=>
 Xa ((P0 .geq b 0))):=by kernel_rfl
noncomputable def ZDH:Fn:=⟨17,[5],[],[2],0,[],[],Tryz.f103,[.c (.int .i64),.c (.int .i64),.box hs0],[.c (.bool)],[]⟩
def ZHI:ZDH.S.Ok Tryz.prog 103:=ZDH.ok Tryz.func103
noncomputable def ZC8 (a c d e f h j k m n o p q:Int) (r:Bool) (s t u v w x y z A C D E G H J K L M N O:Int) (P:LL) (Q R T U V W:Int) (X:Bool) (Y Z aa ab:LL) (ac ad:Int) (ae af ag ah ai aj ak al:LL) (am an:Int) (ao ap aq ar aZ au av aw:LL) (ax:Bool) (ay:Int) (az a0 a1 a2 a3 a4 a5 a6:LL):Option (Qt3):=ZDH.S.g [.i a,.i c,.i d,.i e,.i f,.i h,.i j,.i k,.i m,.i n,.i o,.i p,.i q,.b r,.i s,.i t,.i u,.i v,.i w,.i x,.i y,.i z,.i A,.i C,.i D,.i E,.i G,.i H,.i J,.i K,.i L,.i M,.i N,.i O,.l P,.i Q,.i R,.i T,.i U,.i V,.i W,.b X,.l Y,.l Z,.l aa,.l ab,.i ac,.i ad,.l ae,.l af,.l ag,.l ah,.l ai,.l aj,.l ak,.l al,.i am,.i an,.l ao,.l ap,.l aq,.l ar,.l aZ,.l au,.l av,.l aw,.b ax,.i ay,.l az,.l a0,.l a1,.l a2,.l a3,.l a4,.l a5,.l a6]
def Zvk (b c d e f g h i j k l m n:Int) (o:Bool) (p q r s t u v w x y z A C D E G H J K L:Int) (M:LL) (N O P Q R T:Int) (U:Bool) (V W a X:LL) (Y Z:Int) (S ab ac ad ae af ag ah:LL) (ai aj:Int) (ak al am an ao ap aq ar:LL) (aZ:Bool) (au:Int) (av aw ax ay az a0 a1 a2:LL):ZC8 b c d e f g h i j k l m n o p q r s t u v w x y z A C D E G H J K L M N O P Q R T U V W a X Y Z S ab ac ad ae af ag ah ai aj ak al am an ao ap aq ar aZ au av aw ax ay az a0 a1 a2 =
 (Zj a b [.int .i64] fun (a3:Int)=>
 Zj a c [.int .i64] fun (a4:Int)=>
 Xa ((P0 .lss a3 a4),d,e,f,g,h,i,j,k,l,m,n,o,p,q,r,s,t,u,v,w,x,y,z,A,C,D,E,G,H,J,K,L,M,N,O,P,Q,R,T,U,V,W,a,X,Y,Z,S,ab,ac,ad,ae,af,ag,ah,ai,aj,ak,al,am,an,ao,ap,aq,ar,aZ,au,av,aw,ax,ay,az,a0,a1,a2)):=by kernel_rfl
noncomputable def Zbn:Fn:=⟨17,[4],[(2,[(0,.c (.int .i64)),(1,.clo 103 [17]),(5,.c (.int .i64)),(17,.gbox hs0)])],[],1,[],[],Tryz.f102,[.c (.int .i64),.clo 103 [17],.dead,.dead,.dead,.dead,.dead,.dead,.dead,.dead,.dead,.dead,.dead,.dead,.dead,.dead,.dead,.gbox hs0],[.c (.bool)],[(103,ZDH.S)]⟩
def ZpQ:Zbn.S.Ok Tryz.prog 102:=Zbn.ok Tryz.func102 ⟨ZHI,trivial⟩
noncomputable def Zbf (a c d e f h j k m n o p:Int) (q:Bool) (r s t u v w x y z A C D E G H J K L M N:Int) (O:LL) (P Q R T U V:Int) (W:Bool) (X Y Z aa:LL) (ab ac:Int) (ad ae af ag ah ai aj ak:LL) (al am:Int) (an ao ap aq ar aZ au av:LL) (aw:Bool) (ax:Int) (ay az a0 a1 a2 a3 a4 a5:LL):Option (Qt3):=Zbn.S.g [.i a,.i c,.i d,.i e,.i f,.i h,.i j,.i k,.i m,.i n,.i o,.i p,.b q,.i r,.i s,.i t,.i u,.i v,.i w,.i x,.i y,.i z,.i A,.i C,.i D,.i E,.i G,.i H,.i J,.i K,.i L,.i M,.i N,.l O,.i P,.i Q,.i R,.i T,.i U,.i V,.b W,.l X,.l Y,.l Z,.l aa,.i ab,.i ac,.l ad,.l ae,.l af,.l ag,.l ah,.l ai,.l aj,.l ak,.i al,.i am,.l an,.l ao,.l ap,.l aq,.l ar,.l aZ,.l au,.l av,.b aw,.i ax,.l ay,.l az,.l a0,.l a1,.l a2,.l a3,.l a4,.l a5]
noncomputable def Zab (k:Nat) (a c d e f g h j m n o p q:Int) (r:Bool) (s t u v w x y z A C D E G H J K L M N O:Int) (P:LL) (Q R T U V W:Int) (X:Bool) (Y Z S ab:LL) (ac ad:Int) (ae af ag ah ai aj ak al:LL) (am an:Int) (ao ap aq ar aZ au av aw:LL) (ax:Bool) (ay:Int) (az a0 a1 a2 a3 a4 a5 a6:LL):Option (Qt3):=Zbn.lp [0] 0 r0 k [.i a,.i c,.i d,.i e,.i f,.i g,.i h,.i j,.i m,.i n,.i o,.i p,.i q,.b r,.i s,.i t,.i u,.i v,.i w,.i x,.i y,.i z,.i A,.i C,.i D,.i E,.i G,.i H,.i J,.i K,.i L,.i M,.i N,.i O,.l P,.i Q,.i R,.i T,.i U,.i V,.i W,.b X,.l Y,.l Z,.l S,.l ab,.i ac,.i ad,.l ae,.l af,.l ag,.l ah,.l ai,.l aj,.l ak,.l al,.i am,.i an,.l ao,.l ap,.l aq,.l ar,.l aZ,.l au,.l av,.l aw,.b ax,.i ay,.l az,.l a0,.l a1,.l a2,.l a3,.l a4,.l a5,.l a6]
def ZbQ (k:Nat) (c b d e f g h i j l m n o:Int) (p:Bool) (q r s t u v w x y z A C D E G H J K L M:Int) (N:LL) (O P Q R T U:Int) (V:Bool) (W X Y Z:LL) (S ab:Int) (ac ad ae af ag ah ai aj:LL) (ak al:Int) (am an ao ap aq ar aZ au:LL) (av:Bool) (aw:Int) (ax ay az a0 a1 a2 a3 a4:LL):Zab (k+1) c b d e f g h i j l m n o p q r s t u v w x y z A C D E G H J K L M N O P Q R T U V W X Y Z S ab ac ad ae af ag ah ai aj ak al am an ao ap aq ar aZ au av aw ax ay az a0 a1 a2 a3 a4 =
 (if P0 .lss b c then
 (ZC8 (P1 .sub .i64 b 1) b d e f g h i j l m n o p q r s t u v w x y z A C D E G H J K L M N O P Q R T U V W X Y Z S ab ac ad ae af ag ah ai aj ak al am an ao ap aq ar aZ au av aw ax ay az a0 a1 a2 a3 a4).bind fun a=>
 if (!a.1) then
 Xa (Xc,a.2.1,a.2.2.1,a.2.2.2.1,(d4 a).1,(d4 a).2.1,(d6 a).1,(d6 a).2.1,(d8 a).1,(d8 a).2.1,(df a).1,(df a).2.1,(dg a).1,(dg a).2.1,(dh a).1,(dh a).2.1,(P2 a).1,(P2 a).2.1,(d2 (P2 a)).1,(d2 (P2 a)).2.1,(d4 (P2 a)).1,(d4 (P2 a)).2.1,(d6 (P2 a)).1,(d6 (P2 a)).2.1,(d8 (P2 a)).1,(d8 (P2 a)).2.1,(df (P2 a)).1,(df (P2 a)).2.1,(dg (P2 a)).1,(dg (P2 a)).2.1,(dh (P2 a)).1,(dh (P2 a)).2.1,(di a).1,(di a).2.1,(d2 (di a)).1,(d2 (di a)).2.1,(d4 (di a)).1,(d4 (di a)).2.1,(d6 (di a)).1,(d6 (di a)).2.1,(d8 (di a)).1,(d8 (di a)).2.1,(df (di a)).1,(df (di a)).2.1,(dg (di a)).1,(dg (di a)).2.1,(dh (di a)).1,(dh (di a)).2.1,(dj a).1,(dj a).2.1,(d2 (dj a)).1,(d2 (dj a)).2.1,(d4 (dj a)).1,(d4 (dj a)).2.1,(d6 (dj a)).1,(d6 (dj a)).2.1,(d8 (dj a)).1,(d8 (dj a)).2.1,(df (dj a)).1,(df (dj a)).2.1,(dg (dj a)).1,(dg (dj a)).2.1,(dh (dj a)).1,(dh (dj a)).2.1,(dk a).1,(dk a).2.1,(d2 (dk a)).1,(d2 (dk a)).2.1,(d4 (dk a)).1,(d4 (dk a)).2.1,(d6 (dk a)).1,(d6 (dk a)).2.1,(d8 (dk a)).1,(d8 (dk a)).2.1,(df (dk a)))
 else
 Zab k c (P1 .add .i64 b 1) a.2.1 a.2.2.1 a.2.2.2.1 (d4 a).1 (d4 a).2.1 (d6 a).1 (d6 a).2.1 (d8 a).1 (d8 a).2.1 (df a).1 (df a).2.1 (dg a).1 (dg a).2.1 (dh a).1 (dh a).2.1 (P2 a).1 (P2 a).2.1 (d2 (P2 a)).1 (d2 (P2 a)).2.1 (d4 (P2 a)).1 (d4 (P2 a)).2.1 (d6 (P2 a)).1 (d6 (P2 a)).2.1 (d8 (P2 a)).1 (d8 (P2 a)).2.1 (df (P2 a)).1 (df (P2 a)).2.1 (dg (P2 a)).1 (dg (P2 a)).2.1 (dh (P2 a)).1 (dh (P2 a)).2.1 (di a).1 (di a).2.1 (d2 (di a)).1 (d2 (di a)).2.1 (d4 (di a)).1 (d4 (di a)).2.1 (d6 (di a)).1 (d6 (di a)).2.1 (d8 (di a)).1 (d8 (di a)).2.1 (df (di a)).1 (df (di a)).2.1 (dg (di a)).1 (dg (di a)).2.1 (dh (di a)).1 (dh (di a)).2.1 (dj a).1 (dj a).2.1 (d2 (dj a)).1 (d2 (dj a)).2.1 (d4 (dj a)).1 (d4 (dj a)).2.1 (d6 (dj a)).1 (d6 (dj a)).2.1 (d8 (dj a)).1 (d8 (dj a)).2.1 (df (dj a)).1 (df (dj a)).2.1 (dg (dj a)).1 (dg (dj a)).2.1 (dh (dj a)).1 (dh (dj a)).2.1 (dk a).1 (dk a).2.1 (d2 (dk a)).1 (d2 (dk a)).2.1 (d4 (dk a)).1 (d4 (dk a)).2.1 (d6 (dk a)).1 (d6 (dk a)).2.1 (d8 (dk a)).1 (d8 (dk a)).2.1 (df (dk a))
 else
 Xa (Xb,d,e,f,g,h,i,j,l,m,n,o,p,q,r,s,t,u,v,w,x,y,z,A,C,D,E,G,H,J,K,L,M,N,O,P,Q,R,T,U,V,W,X,Y,Z,S,ab,ac,ad,ae,af,ag,ah,ai,aj,ak,al,am,an,ao,ap,aq,ar,aZ,au,av,aw,ax,ay,az,a0,a1,a2,a3,a4)):=by kernel_rfl
def ZkJ (a b c d e f g h i j k l:Int) (m:Bool) (n o p q r s t u v w x y z A C D E G H J:Int) (K:LL) (L M N O P Q:Int) (R:Bool) (T U V W:LL) (X Y:Int) (Z S ab ac ad ae af ag:LL) (ah ai:Int) (aj ak al am an ao ap aq:LL) (ar:Bool) (aZ:Int) (au av aw ax ay az a0 a1:LL):Zbf a b c d e f g h i j k l m n o p q r s t u v w x y z A C D E G H J K L M N O P Q R T U V W X Y Z S ab ac ad ae af ag ah ai aj ak al am an ao ap aq ar aZ au av aw ax ay az a0 a1 =
 (Zab Zr a 1 b c d e f g h i j k l m n o p q r s t u v w x y z A C D E G H J K L M N O P Q R T U V W X Y Z S ab ac ad ae af ag ah ai aj ak al am an ao ap aq ar aZ au av aw ax ay az a0 a1):=by kernel_rfl
noncomputable def ZDN:Fn:=⟨13,[2],[],[],0,[],[],Tryz.f108,[.agg [.int .i64,.int .i64]],[.c (.bool)],[(89,F89.S),(34,F34.S)]⟩
def ZE4:ZDN.S.Ok Tryz.prog 108:=ZDN.ok Tryz.func108 ⟨ZEd,⟨ZuM,trivial⟩⟩
noncomputable def ZE0 (a b:Int):Option (Bool):=ZDN.S.g [.i a,.i b]
def ZwG (a b:Int):ZE0 a b =
 ((g89 a).bind fun c=>
 if (!c) then
 Xa (Xb)
 else
 (g34 b).bind fun d=>
 Xa ((!d))):=by kernel_rfl
noncomputable def ZbX:Fn:=⟨19,[4],[(2,[(0,.c (.slice 2)),(1,.clo 108 []),(7,.c (.int .i64)),(8,.c (.int .i64))])],[],0,[],[],Tryz.f178,[.c (.slice 2),.clo 108 []],[.c (.int .i64)],[(108,ZDN.S)]⟩
def ZoM:ZbX.S.Ok Tryz.prog 178:=ZbX.ok Tryz.func178 ⟨ZE4,trivial⟩
noncomputable def ZgY (a:LL):Option (Int):=ZbX.S.g [.l a]
noncomputable def Vk (k:Nat) (a:LL) (b c:Int):Option (Int):=ZbX.lp [0] 0 r0 k [.l a,.i b,.i c]
def ZbV (k:Nat) (b:LL) (c a:Int):Vk (k+1) b c a =
 (if P0 .lss a c then
 Zj b a [.int .i64,.int .i64] fun (d:Int×Int)=>
 (ZE0 d.1 d.2).bind fun e=>
 if e then
 Xa (a)
 else
 Vk k b c (P1 .add .i64 a 1)
 else
 Xa ((-1))):=by kernel_rfl
def Zke (a:LL):ZgY a =
 (Vk Zr a (Xh a:Int) 0):=by kernel_rfl
noncomputable def Zdf:Fn:=⟨9,[4],[],[],0,[],[],Tryz.f107,[.c (.slice 2),.clo 108 []],[.c (.bool)],[(178,ZbX.S)]⟩
def ZoL:Zdf.S.Ok Tryz.prog 107:=Zdf.ok Tryz.func107 ⟨ZoM,trivial⟩
noncomputable def Zdn (a:LL):Option (Bool):=Zdf.S.g [.l a]
def ZkX (a:LL):Zdn a =
 ((ZgY a).bind fun b=>
 Xa ((P0 .geq b 0))):=by kernel_rfl
noncomputable def F35:Fn:=⟨114,[4],[],[],0,[],[],Tryz.f35,[.agg hs0,.c (.int .i64)],[.c (.bool)],[(89,F89.S),(90,F90.S),(91,F91.S),(92,F92.S),(93,Zmg.S),(96,F96.S),(97,Znx.S),(33,F33.S),(100,Zdu.S),(102,Zbn.S),(104,ZDj.S),(105,Zx6.S),(106,Zzy.S),(107,Zdf.S)]⟩
def ZJu:F35.S.Ok Tryz.prog 35:=F35.ok Tryz.func35 ⟨ZEd,⟨ZJl,⟨ZDr,⟨ZI7,⟨ZvY,⟨ZI3,⟨Zvo,⟨ZHd,⟨Zp9,⟨ZpQ,⟨ZHa,⟨ZBB,⟨ZAr,⟨ZoL,trivial⟩⟩⟩⟩⟩⟩⟩⟩⟩⟩⟩⟩⟩⟩
noncomputable def g35 (a c d e f h j k m n o:Int) (p:Bool) (q r s t u v w x y z A C D E G H J K L M:Int) (N:LL) (O P Q R T U:Int) (V:Bool) (W X Y Z:LL) (aa ab:Int) (ac ad ae af ag ah ai aj:LL) (ak al:Int) (am an ao ap aq ar aZ au:LL) (av:Bool) (aw:Int) (ax ay az a0 a1 a2 a3 a4:LL) (a5:Int):Option (Bool):=F35.S.g [.i a,.i c,.i d,.i e,.i f,.i h,.i j,.i k,.i m,.i n,.i o,.b p,.i q,.i r,.i s,.i t,.i u,.i v,.i w,.i x,.i y,.i z,.i A,.i C,.i D,.i E,.i G,.i H,.i J,.i K,.i L,.i M,.l N,.i O,.i P,.i Q,.i R,.i T,.i U,.b V,.l W,.l X,.l Y,.l Z,.i aa,.i ab,.l ac,.l ad,.l ae,.l af,.l ag,.l ah,.l ai,.l aj,.i ak,.i al,.l am,.l an,.l ao,.l ap,.l aq,.l ar,.l aZ,.l au,.b av,.i aw,.l ax,.l ay,.l az,.l a0,.l a1,.l a2,.l a3,.l a4,.i a5]
def Vr (g x1 x2 x3 h i j k l m n:Int) (a2:Bool) (o p q r s t u v w x y z A C D E G H J K:Int) (L:LL) (M N O P Q R:Int) (T:Bool) (d c e f:LL) (U V:Int) (W X Y Z S ab ac ad:LL) (ae af:Int) (ag ah ai aj ak al am an:LL) (ao:Bool) (ap:Int) (aq ar aZ au av aw ax ay:LL) (b:Int):g35 g x1 x2 x3 h i j k l m n a2 o p q r s t u v w x y z A C D E G H J K L M N O P Q R T d c e f U V W X Y Z S ab ac ad ae af ag ah ai aj ak al am an ao ap aq ar aZ au av aw ax ay b =
 (if P0 .eql b 0 then
 (g89 i).bind fun a=>
 Xa (a)
 else
 if P0 .eql b 1 then
 (g90 o p q r s t u v w x y z A C D E G H J K L M N O P Q R T).bind fun a=>
 Xa (a)
 else
 if P0 .eql b 2 then
 (g91 k l m).bind fun a=>
 Xa (a)
 else
 if P0 .eql b 3 then
 (g92 n).bind fun a=>
 Xa (a)
 else
 if P0 .eql b 5 then
 if P0 .gtr (Xh c:Int) 8 then
 Xa (Xc)
 else
 if P0 .eql g 4 then
 if P0 .neq (Xh c:Int) 1 then
 Xa (Xc)
 else
 (ZfI c).bind fun a=>
 Xa ((!a))
 else
 (ZfI c).bind fun a=>
 Xa ((!a))
 else
 if P0 .eql b 6 then
 (g96 j).bind fun a=>
 Xa (a)
 else
 if P0 .eql b 7 then
 if P0 .leq (Xh d:Int) 64 then
 (Zl9 d).bind fun a=>
 Xa ((!a))
 else
 Xa (Xc)
 else
 if P0 .eql b 8 then
 (g33 h).bind fun a=>
 Xa (a)
 else
 if P0 .eql b 9 then
 (Zdg e).bind fun a=>
 if (!a) then
 (Zbf (Xh e:Int) g x1 x2 x3 h i j k l m n a2 o p q r s t u v w x y z A C D E G H J K L M N O P Q R T d c e f U V W X Y Z S ab ac ad ae af ag ah ai aj ak al am an ao ap aq ar aZ au av aw ax ay).bind fun a3=>
 Xa (a3.1)
 else
 Xa (Xc)
 else
 if P0 .eql b 10 then
 (ZG3 ae af ag ah ai aj ak al am an ao ap aq ar aZ au av aw ax ay).bind fun a=>
 Xa (a)
 else
 if P0 .eql b 11 then
 (g33 U).bind fun a=>
 Xa (a)
 else
 if P0 .eql b 12 then
 (ZzM V W X).bind fun a=>
 Xa (a)
 else
 if P0 .eql b 13 then
 (ZB0 Y Z S ab ac ad).bind fun a=>
 Xa (a)
 else
 if P0 .eql b 14 then
 if P0 .leq (Xh f:Int) 16 then
 (Zdn f).bind fun a=>
 Xa ((!a))
 else
 Xa (Xc)
 else
 Xa (Xb)):=by kernel_rfl
noncomputable def F36:Fn:=⟨85,[],[],[0],0,[],[],Tryz.f36,[.box hs0,.c (.int .i64)],[],[]⟩
def ZKE:F36.S.Ok Tryz.prog 36:=F36.ok Tryz.func36
noncomputable def g36 (a c d e f h j k m n o:Int) (p:Bool) (q r s t u v w x y z A C D E G H J K L M:Int) (N:LL) (O P Q R T U:Int) (V:Bool) (W X Y Z:LL) (aa ab:Int) (ac ad ae af ag ah ai aj:LL) (ak al:Int) (am an ao ap aq ar aZ au:LL) (av:Bool) (aw:Int) (ax ay az a0 a1 a2 a3 a4:LL) (a5:Int):Option (Qt5):=F36.S.g [.i a,.i c,.i d,.i e,.i f,.i h,.i j,.i k,.i m,.i n,.i o,.b p,.i q,.i r,.i s,.i t,.i u,.i v,.i w,.i x,.i y,.i z,.i A,.i C,.i D,.i E,.i G,.i H,.i J,.i K,.i L,.i M,.l N,.i O,.i P,.i Q,.i R,.i T,.i U,.b V,.l W,.l X,.l Y,.l Z,.i aa,.i ab,.l ac,.l ad,.l ae,.l af,.l ag,.l ah,.l ai,.l aj,.i ak,.i al,.l am,.l an,.l ao,.l ap,.l aq,.l ar,.l aZ,.l au,.b av,.i aw,.l ax,.l ay,.l az,.l a0,.l a1,.l a2,.l a3,.l a4,.i a5]
def Vo (a b c d e f g h i j k:Int) (l:Bool) (m n o p q r s t u v w x y z A C D E G H:Int) (J:LL) (K L M N O P:Int) (Q:Bool) (R T U V:LL) (W X:Int) (Y Z S ab ac ad ae af:LL) (ag ah:Int) (ai aj ak al am an ao ap:LL) (aq:Bool) (ar:Int) (aZ au av aw ax ay az a0:LL) (a1:Int):g36 a b c d e f g h i j k l m n o p q r s t u v w x y z A C D E G H J K L M N O P Q R T U V W X Y Z S ab ac ad ae af ag ah ai aj ak al am an ao ap aq ar aZ au av aw ax ay az a0 a1 =
 (if P0 .eql a1 0 then
 Xa (a,b,c,d,e,0,g,h,i,j,k,l,m,n,o,p,q,r,s,t,u,v,w,x,y,z,A,C,D,E,G,H,J,K,L,M,N,O,P,Q,R,T,U,V,W,X,Y,Z,S,ab,ac,ad,ae,af,ag,ah,ai,aj,ak,al,am,an,ao,ap,aq,ar,aZ,au,av,aw,ax,ay,az,a0)
 else
 if P0 .eql a1 1 then
 Xa (a,b,c,d,e,f,g,h,i,j,k,l,0,0,0,0,0,0,0,0,0,0,0,0,0,0,0,0,0,0,0,0,E0,0,0,0,0,0,0,Xc,R,T,U,V,W,X,Y,Z,S,ab,ac,ad,ae,af,ag,ah,ai,aj,ak,al,am,an,ao,ap,aq,ar,aZ,au,av,aw,ax,ay,az,a0)
 else
 if P0 .eql a1 2 then
 Xa (a,b,c,d,e,f,g,0,0,0,k,l,m,n,o,p,q,r,s,t,u,v,w,x,y,z,A,C,D,E,G,H,J,K,L,M,N,O,P,Q,R,T,U,V,W,X,Y,Z,S,ab,ac,ad,ae,af,ag,ah,ai,aj,ak,al,am,an,ao,ap,aq,ar,aZ,au,av,aw,ax,ay,az,a0)
 else
 if P0 .eql a1 3 then
 Xa (a,b,c,d,e,f,g,h,i,j,0,l,m,n,o,p,q,r,s,t,u,v,w,x,y,z,A,C,D,E,G,H,J,K,L,M,N,O,P,Q,R,T,U,V,W,X,Y,Z,S,ab,ac,ad,ae,af,ag,ah,ai,aj,ak,al,am,an,ao,ap,aq,ar,aZ,au,av,aw,ax,ay,az,a0)
 else
 if P0 .eql a1 4 then
 Xa (a,b,c,d,e,f,g,h,i,j,k,Xc,m,n,o,p,q,r,s,t,u,v,w,x,y,z,A,C,D,E,G,H,J,K,L,M,N,O,P,Q,R,T,U,V,W,X,Y,Z,S,ab,ac,ad,ae,af,ag,ah,ai,aj,ak,al,am,an,ao,ap,aq,ar,aZ,au,av,aw,ax,ay,az,a0)
 else
 if P0 .eql a1 5 then
 Xa (a,b,c,d,e,f,g,h,i,j,k,l,m,n,o,p,q,r,s,t,u,v,w,x,y,z,A,C,D,E,G,H,J,K,L,M,N,O,P,Q,R,E0,U,V,W,X,Y,Z,S,ab,ac,ad,ae,af,ag,ah,ai,aj,ak,al,am,an,ao,ap,aq,ar,aZ,au,av,aw,ax,ay,az,a0)
 else
 if P0 .eql a1 6 then
 Xa (a,b,c,d,e,f,0,h,i,j,k,l,m,n,o,p,q,r,s,t,u,v,w,x,y,z,A,C,D,E,G,H,J,K,L,M,N,O,P,Q,R,T,U,V,W,X,Y,Z,S,ab,ac,ad,ae,af,ag,ah,ai,aj,ak,al,am,an,ao,ap,aq,ar,aZ,au,av,aw,ax,ay,az,a0)
 else
 if P0 .eql a1 7 then
 Xa (a,b,c,d,e,f,g,h,i,j,k,l,m,n,o,p,q,r,s,t,u,v,w,x,y,z,A,C,D,E,G,H,J,K,L,M,N,O,P,Q,E0,T,U,V,W,X,Y,Z,S,ab,ac,ad,ae,af,ag,ah,ai,aj,ak,al,am,an,ao,ap,aq,ar,aZ,au,av,aw,ax,ay,az,a0)
 else
 if P0 .eql a1 8 then
 Xa (a,b,c,d,0,f,g,h,i,j,k,l,m,n,o,p,q,r,s,t,u,v,w,x,y,z,A,C,D,E,G,H,J,K,L,M,N,O,P,Q,R,T,U,V,W,X,Y,Z,S,ab,ac,ad,ae,af,ag,ah,ai,aj,ak,al,am,an,ao,ap,aq,ar,aZ,au,av,aw,ax,ay,az,a0)
 else
 if P0 .eql a1 9 then
 Xa (a,b,c,d,e,f,g,h,i,j,k,l,m,n,o,p,q,r,s,t,u,v,w,x,y,z,A,C,D,E,G,H,J,K,L,M,N,O,P,Q,R,T,E0,V,W,X,Y,Z,S,ab,ac,ad,ae,af,ag,ah,ai,aj,ak,al,am,an,ao,ap,aq,ar,aZ,au,av,aw,ax,ay,az,a0)
 else
 if P0 .eql a1 10 then
 Xa (a,b,c,d,e,f,g,h,i,j,k,l,m,n,o,p,q,r,s,t,u,v,w,x,y,z,A,C,D,E,G,H,J,K,L,M,N,O,P,Q,R,T,U,V,W,X,Y,Z,S,ab,ac,ad,ae,af,0,0,E0,E0,E0,E0,E0,E0,E0,E0,Xc,0,E0,E0,E0,E0,E0,E0,E0,E0)
 else
 if P0 .eql a1 11 then
 Xa (a,b,c,d,e,f,g,h,i,j,k,l,m,n,o,p,q,r,s,t,u,v,w,x,y,z,A,C,D,E,G,H,J,K,L,M,N,O,P,Q,R,T,U,V,0,X,Y,Z,S,ab,ac,ad,ae,af,ag,ah,ai,aj,ak,al,am,an,ao,ap,aq,ar,aZ,au,av,aw,ax,ay,az,a0)
 else
 if P0 .eql a1 12 then
 Xa (a,b,c,d,e,f,g,h,i,j,k,l,m,n,o,p,q,r,s,t,u,v,w,x,y,z,A,C,D,E,G,H,J,K,L,M,N,O,P,Q,R,T,U,V,W,0,E0,E0,S,ab,ac,ad,ae,af,ag,ah,ai,aj,ak,al,am,an,ao,ap,aq,ar,aZ,au,av,aw,ax,ay,az,a0)
 else
 if P0 .eql a1 13 then
 Xa (a,b,c,d,e,f,g,h,i,j,k,l,m,n,o,p,q,r,s,t,u,v,w,x,y,z,A,C,D,E,G,H,J,K,L,M,N,O,P,Q,R,T,U,V,W,X,Y,Z,E0,E0,E0,E0,E0,E0,ag,ah,ai,aj,ak,al,am,an,ao,ap,aq,ar,aZ,au,av,aw,ax,ay,az,a0)
 else
 if P0 .eql a1 14 then
 Xa (a,b,c,d,e,f,g,h,i,j,k,l,m,n,o,p,q,r,s,t,u,v,w,x,y,z,A,C,D,E,G,H,J,K,L,M,N,O,P,Q,R,T,U,E0,W,X,Y,Z,S,ab,ac,ad,ae,af,ag,ah,ai,aj,ak,al,am,an,ao,ap,aq,ar,aZ,au,av,aw,ax,ay,az,a0)
 else
 Xa (a,b,c,d,e,f,g,h,i,j,k,l,m,n,o,p,q,r,s,t,u,v,w,x,y,z,A,C,D,E,G,H,J,K,L,M,N,O,P,Q,R,T,U,V,W,X,Y,Z,S,ab,ac,ad,ae,af,ag,ah,ai,aj,ak,al,am,an,ao,ap,aq,ar,aZ,au,av,aw,ax,ay,az,a0)):=by kernel_rfl
noncomputable def ZDo:Fn:=⟨29,[2],[],[],0,[],[],Tryz.f109,[.agg hs6],[.c (.bool)],[(164,Zyv.S)]⟩
def ZIa:ZDo.S.Ok Tryz.prog 109:=ZDo.ok Tryz.func109 ⟨Zuz,trivial⟩
noncomputable def ZHD (a c d e f h j k m n o p q r s t u v w x:Int) (y:LL) (z A C D E G:Int) (H:Bool):Option (Bool):=ZDo.S.g [.i a,.i c,.i d,.i e,.i f,.i h,.i j,.i k,.i m,.i n,.i o,.i p,.i q,.i r,.i s,.i t,.i u,.i v,.i w,.i x,.l y,.i z,.i A,.i C,.i D,.i E,.i G,.b H]
def ZxG (a b c d e f g h i j k l m n o p q r s t:Int) (u:LL) (v w x y z A:Int) (C:Bool):ZHD a b c d e f g h i j k l m n o p q r s t u v w x y z A C =
 (if ((P0 .eql a 0)&&((P0 .eql b 0)&&((P0 .eql c 0)&&Xb))) then
 if ((P0 .eql d 0)&&((P0 .eql e 0)&&((P0 .eql f 0)&&((P0 .eql g 0)&&((P0 .eql h 0)&&((P0 .eql i 0)&&((P0 .eql j 0)&&((P0 .eql k 0)&&((P0 .eql l 0)&&((P0 .eql m 0)&&((P0 .eql n 0)&&((P0 .eql o 0)&&Xb)))))))))))) then
 if P0 .eql p 0 then
 if P0 .eql q 0 then
 (ZxL r s t u v w x y z A C 0 0 0 E0 0 0 0 0 0 0 Xc).bind fun D=>
 Xa (D)
 else
 Xa (Xc)
 else
 Xa (Xc)
 else
 Xa (Xc)
 else
 Xa (Xc)):=by kernel_rfl
noncomputable def ZzW:Fn:=⟨18,[2],[],[],0,[],[],Tryz.f110,[.agg [.int .i64,.slice 1,.slice 1]],[.c (.bool)],[]⟩
def ZCq:ZzW.S.Ok Tryz.prog 110:=ZzW.ok Tryz.func110
noncomputable def ZBa (a:Int) (b c:LL):Option (Bool):=ZzW.S.g [.i a,.l b,.l c]
def ZwX (a:Int) (b c:LL):ZBa a b c =
 (if P0 .eql a 0 then
 if P0 .eql (Xh b:Int) 0 then
 Xa ((P0 .eql (Xh c:Int) 0))
 else
 Xa (Xc)
 else
 Xa (Xc)):=by kernel_rfl
noncomputable def ZCN:Fn:=⟨37,[2],[],[],0,[],[],Tryz.f111,[.agg hs30],[.c (.bool)],[]⟩
def ZAT:ZCN.S.Ok Tryz.prog 111:=ZCN.ok Tryz.func111
noncomputable def ZCb (a b c d e f:LL):Option (Bool):=ZCN.S.g [.l a,.l b,.l c,.l d,.l e,.l f]
def Zvx (a b c d e f:LL):ZCb a b c d e f =
 (if P0 .eql (Xh a:Int) 0 then
 if P0 .eql (Xh b:Int) 0 then
 if P0 .eql (Xh c:Int) 0 then
 if P0 .eql (Xh d:Int) 0 then
 if P0 .eql (Xh e:Int) 0 then
 Xa ((P0 .eql (Xh f:Int) 0))
 else
 Xa (Xc)
 else
 Xa (Xc)
 else
 Xa (Xc)
 else
 Xa (Xc)
 else
 Xa (Xc)):=by kernel_rfl
noncomputable def ZEg:Fn:=⟨31,[2],[],[],0,[],[],Tryz.f112,[.agg hs7],[.c (.bool)],[(110,ZzW.S),(111,ZCN.S)]⟩
def ZHC:ZEg.S.Ok Tryz.prog 112:=ZEg.ok Tryz.func112 ⟨ZCq,⟨ZAT,trivial⟩⟩
noncomputable def ZHG (a c:Int) (d e f h j k m n:LL) (o:Bool) (p:Int) (q r s t u v w x:LL):Option (Bool):=ZEg.S.g [.i a,.i c,.l d,.l e,.l f,.l h,.l j,.l k,.l m,.l n,.b o,.i p,.l q,.l r,.l s,.l t,.l u,.l v,.l w,.l x]
def ZxN (a b:Int) (c d e f g h i j:LL) (k:Bool) (l:Int) (m n o p q r s t:LL):ZHG a b c d e f g h i j k l m n o p q r s t =
 (if P0 .eql a 0 then
 (ZBa b c d).bind fun u=>
 if u then
 (ZCb e f g h i j).bind fun v=>
 if v then
 if (!k) then
 (ZBa l m n).bind fun w=>
 if w then
 (ZCb o p q r s t).bind fun x=>
 Xa (x)
 else
 Xa (Xc)
 else
 Xa (Xc)
 else
 Xa (Xc)
 else
 Xa (Xc)
 else
 Xa (Xc)):=by kernel_rfl
noncomputable def F37:Fn:=⟨81,[2],[],[],0,[],[],Tryz.f37,[.agg hs0],[.c (.bool)],[(109,ZDo.S),(110,ZzW.S),(111,ZCN.S),(112,ZEg.S)]⟩
def ZJW:F37.S.Ok Tryz.prog 37:=F37.ok Tryz.func37 ⟨ZIa,⟨ZCq,⟨ZAT,⟨ZHC,trivial⟩⟩⟩⟩
noncomputable def g37 (a c d e f h j k m n o:Int) (p:Bool) (q r s t u v w x y z A C D E G H J K L M:Int) (N:LL) (O P Q R T U:Int) (V:Bool) (W X Y Z:LL) (aa ab:Int) (ac ad ae af ag ah ai aj:LL) (ak al:Int) (am an ao ap aq ar aZ au:LL) (av:Bool) (aw:Int) (ax ay az a0 a1 a2 a3 a4:LL):Option (Bool):=F37.S.g [.i a,.i c,.i d,.i e,.i f,.i h,.i j,.i k,.i m,.i n,.i o,.b p,.i q,.i r,.i s,.i t,.i u,.i v,.i w,.i x,.i y,.i z,.i A,.i C,.i D,.i E,.i G,.i H,.i J,.i K,.i L,.i M,.l N,.i O,.i P,.i Q,.i R,.i T,.i U,.b V,.l W,.l X,.l Y,.l Z,.i aa,.i ab,.l ac,.l ad,.l ae,.l af,.l ag,.l ah,.l ai,.l aj,.i ak,.i al,.l am,.l an,.l ao,.l ap,.l aq,.l ar,.l aZ,.l au,.b av,.i aw,.l ax,.l ay,.l az,.l a0,.l a1,.l a2,.l a3,.l a4]
def ZBK (x0 x1 x2 x3 a b c d e f g:Int) (h:Bool) (i j k l m n o p q r s t u v w x y z A C:Int) (D:LL) (E G H J K L:Int) (M:Bool) (N O P Q:LL) (R T:Int) (U V W X Y Z S ab:LL) (ac ad:Int) (ae af ag ah ai aj ak al:LL) (am:Bool) (an:Int) (ao ap aq ar aZ au av aw:LL):g37 x0 x1 x2 x3 a b c d e f g h i j k l m n o p q r s t u v w x y z A C D E G H J K L M N O P Q R T U V W X Y Z S ab ac ad ae af ag ah ai aj ak al am an ao ap aq ar aZ au av aw =
 (if P0 .eql a 0 then
 if P0 .eql b 0 then
 if P0 .eql c 0 then
 if ((P0 .eql d 0)&&((P0 .eql e 0)&&((P0 .eql f 0)&&Xb))) then
 if P0 .eql g 0 then
 if (!h) then
 (ZHD i j k l m n o p q r s t u v w x y z A C D E G H J K L M).bind fun a1=>
 if a1 then
 if P0 .eql (Xh N:Int) 0 then
 if P0 .eql (Xh O:Int) 0 then
 if P0 .eql (Xh P:Int) 0 then
 if P0 .eql (Xh Q:Int) 0 then
 if P0 .eql R 0 then
 (ZBa T U V).bind fun a2=>
 if a2 then
 (ZCb W X Y Z S ab).bind fun a3=>
 if a3 then
 (ZHG ac ad ae af ag ah ai aj ak al am an ao ap aq ar aZ au av aw).bind fun a4=>
 Xa (a4)
 else
 Xa (Xc)
 else
 Xa (Xc)
 else
 Xa (Xc)
 else
 Xa (Xc)
 else
 Xa (Xc)
 else
 Xa (Xc)
 else
 Xa (Xc)
 else
 Xa (Xc)
 else
 Xa (Xc)
 else
 Xa (Xc)
 else
 Xa (Xc)
 else
 Xa (Xc)
 else
 Xa (Xc)
 else
 Xa (Xc)):=by kernel_rfl
noncomputable def F12:Fn:=⟨50,[2],[(6,[(1,.box hs0),(5,.box hs0),(35,.c (.slice 1)),(36,.c (.int .i64)),(37,.c (.int .i64))])],[],0,[],[],Tryz.f12,[.agg hs0],[.c (.bool)],[(32,F32.S),(33,F33.S),(34,F34.S),(35,F35.S),(36,F36.S),(37,F37.S)]⟩
def ZJq:F12.S.Ok Tryz.prog 12:=F12.ok Tryz.func12 ⟨ZF3,⟨ZHd,⟨ZuM,⟨ZJu,⟨ZKE,⟨ZJW,trivial⟩⟩⟩⟩⟩⟩
noncomputable def g12 (a c d e f h j k m n o:Int) (p:Bool) (q r s t u v w x y z A C D E G H J K L M:Int) (N:LL) (O P Q R T U:Int) (V:Bool) (W X Y Z:LL) (aa ab:Int) (ac ad ae af ag ah ai aj:LL) (ak al:Int) (am an ao ap aq ar aZ au:LL) (av:Bool) (aw:Int) (ax ay az a0 a1 a2 a3 a4:LL):Option (Bool):=F12.S.g [.i a,.i c,.i d,.i e,.i f,.i h,.i j,.i k,.i m,.i n,.i o,.b p,.i q,.i r,.i s,.i t,.i u,.i v,.i w,.i x,.i y,.i z,.i A,.i C,.i D,.i E,.i G,.i H,.i J,.i K,.i L,.i M,.l N,.i O,.i P,.i Q,.i R,.i T,.i U,.b V,.l W,.l X,.l Y,.l Z,.i aa,.i ab,.l ac,.l ad,.l ae,.l af,.l ag,.l ah,.l ai,.l aj,.i ak,.i al,.l am,.l an,.l ao,.l ap,.l aq,.l ar,.l aZ,.l au,.b av,.i aw,.l ax,.l ay,.l az,.l a0,.l a1,.l a2,.l a3,.l a4]
noncomputable def Zsc (k:Nat) (a c d e f g h j m n o:Int) (p:Bool) (q r s t u v w x y z A C D E G H J K L M:Int) (N:LL) (O P Q R T U:Int) (V:Bool) (W X Y Z:LL) (S ab:Int) (ac ad ae af ag ah ai aj:LL) (ak al:Int) (am an ao ap aq ar aZ au:LL) (av:Bool) (aw:Int) (ax ay az a0 a1 a2 a3 a4:LL) (a5 a6 a7 a8 a9 ba bb bc bd be bf:Int) (bg:Bool) (bh bi bj bk bl bm bn bo bp bq br bs bt bu bv bw bx bz b0 b1:Int) (b2:LL) (b3 b4 b5 b6 b7 b8:Int) (b9:Bool) (ca cb cc cd:LL) (ce cf:Int) (cg ch ci cj ck cl cm cn:LL) (co cp:Int) (cq cr cs ct cu cv cw cx:LL) (cy:Bool) (cz:Int) (c0 c1 c2 c3 c4 c5 c6 c7 c8:LL) (c9 da:Int):Option (Bool):=F12.lp [0,1,0,1,0,1,0,1,0] 0 r0 k [.i a,.i c,.i d,.i e,.i f,.i g,.i h,.i j,.i m,.i n,.i o,.b p,.i q,.i r,.i s,.i t,.i u,.i v,.i w,.i x,.i y,.i z,.i A,.i C,.i D,.i E,.i G,.i H,.i J,.i K,.i L,.i M,.l N,.i O,.i P,.i Q,.i R,.i T,.i U,.b V,.l W,.l X,.l Y,.l Z,.i S,.i ab,.l ac,.l ad,.l ae,.l af,.l ag,.l ah,.l ai,.l aj,.i ak,.i al,.l am,.l an,.l ao,.l ap,.l aq,.l ar,.l aZ,.l au,.b av,.i aw,.l ax,.l ay,.l az,.l a0,.l a1,.l a2,.l a3,.l a4,.i a5,.i a6,.i a7,.i a8,.i a9,.i ba,.i bb,.i bc,.i bd,.i be,.i bf,.b bg,.i bh,.i bi,.i bj,.i bk,.i bl,.i bm,.i bn,.i bo,.i bp,.i bq,.i br,.i bs,.i bt,.i bu,.i bv,.i bw,.i bx,.i bz,.i b0,.i b1,.l b2,.i b3,.i b4,.i b5,.i b6,.i b7,.i b8,.b b9,.l ca,.l cb,.l cc,.l cd,.i ce,.i cf,.l cg,.l ch,.l ci,.l cj,.l ck,.l cl,.l cm,.l cn,.i co,.i cp,.l cq,.l cr,.l cs,.l ct,.l cu,.l cv,.l cw,.l cx,.b cy,.i cz,.l c0,.l c1,.l c2,.l c3,.l c4,.l c5,.l c6,.l c7,.l c8,.i c9,.i da]
def Zmr (k:Nat) (d e f g h i j l m n o:Int) (p:Bool) (q r s t u v w x y z A C D E G H J K L M:Int) (N:LL) (O P Q R T U:Int) (V:Bool) (W X Y Z:LL) (S ab:Int) (ac ad ae af ag ah ai aj:LL) (ak al:Int) (am an ao ap aq ar aZ au:LL) (av:Bool) (aw:Int) (ax ay az a0 a1 a2 a3 a4:LL) (a5 a6 a7 a8 a9 ba bb bc bd be bf:Int) (bg:Bool) (bh bi bj bk bl bm bn bo bp bq br bs bt bu bv bw bx bz b0 b1:Int) (b2:LL) (b3 b4 b5 b6 b7 b8:Int) (b9:Bool) (ca cb cc cd:LL) (ce cf:Int) (cg ch ci cj ck cl cm cn:LL) (co cp:Int) (cq cr cs ct cu cv cw cx:LL) (cy:Bool) (cz:Int) (c0 c1 c2 c3 c4 c5 c6 c7 c8:LL) (c9 b:Int):Zsc (k+1) d e f g h i j l m n o p q r s t u v w x y z A C D E G H J K L M N O P Q R T U V W X Y Z S ab ac ad ae af ag ah ai aj ak al am an ao ap aq ar aZ au av aw ax ay az a0 a1 a2 a3 a4 a5 a6 a7 a8 a9 ba bb bc bd be bf bg bh bi bj bk bl bm bn bo bp bq br bs bt bu bv bw bx bz b0 b1 b2 b3 b4 b5 b6 b7 b8 b9 ca cb cc cd ce cf cg ch ci cj ck cl cm cn co cp cq cr cs ct cu cv cw cx cy cz c0 c1 c2 c3 c4 c5 c6 c7 c8 c9 b =
 (if P0 .lss b c9 then
 Zj c8 b [.int .i64] fun (c:Int)=>
 (g35 d e f g h i j l m n o p q r s t u v w x y z A C D E G H J K L M N O P Q R T U V W X Y Z S ab ac ad ae af ag ah ai aj ak al am an ao ap aq ar aZ au av aw ax ay az a0 a1 a2 a3 a4 c).bind fun da=>
 if (!da) then
 Xa (Xc)
 else
 (g36 a5 a6 a7 a8 a9 ba bb bc bd be bf bg bh bi bj bk bl bm bn bo bp bq br bs bt bu bv bw bx bz b0 b1 b2 b3 b4 b5 b6 b7 b8 b9 ca cb cc cd ce cf cg ch ci cj ck cl cm cn co cp cq cr cs ct cu cv cw cx cy cz c0 c1 c2 c3 c4 c5 c6 c7 c).bind fun a=>
 Zsc k d e f g h i j l m n o p q r s t u v w x y z A C D E G H J K L M N O P Q R T U V W X Y Z S ab ac ad ae af ag ah ai aj ak al am an ao ap aq ar aZ au av aw ax ay az a0 a1 a2 a3 a4 a.1 a.2.1 a.2.2.1 a.2.2.2.1 (d4 a).1 (d4 a).2.1 (d6 a).1 (d6 a).2.1 (d8 a).1 (d8 a).2.1 (df a).1 (df a).2.1 (dg a).1 (dg a).2.1 (dh a).1 (dh a).2.1 (P2 a).1 (P2 a).2.1 (d2 (P2 a)).1 (d2 (P2 a)).2.1 (d4 (P2 a)).1 (d4 (P2 a)).2.1 (d6 (P2 a)).1 (d6 (P2 a)).2.1 (d8 (P2 a)).1 (d8 (P2 a)).2.1 (df (P2 a)).1 (df (P2 a)).2.1 (dg (P2 a)).1 (dg (P2 a)).2.1 (dh (P2 a)).1 (dh (P2 a)).2.1 (di a).1 (di a).2.1 (d2 (di a)).1 (d2 (di a)).2.1 (d4 (di a)).1 (d4 (di a)).2.1 (d6 (di a)).1 (d6 (di a)).2.1 (d8 (di a)).1 (d8 (di a)).2.1 (df (di a)).1 (df (di a)).2.1 (dg (di a)).1 (dg (di a)).2.1 (dh (di a)).1 (dh (di a)).2.1 (dj a).1 (dj a).2.1 (d2 (dj a)).1 (d2 (dj a)).2.1 (d4 (dj a)).1 (d4 (dj a)).2.1 (d6 (dj a)).1 (d6 (dj a)).2.1 (d8 (dj a)).1 (d8 (dj a)).2.1 (df (dj a)).1 (df (dj a)).2.1 (dg (dj a)).1 (dg (dj a)).2.1 (dh (dj a)).1 (dh (dj a)).2.1 (dk a).1 (dk a).2.1 (d2 (dk a)).1 (d2 (dk a)).2.1 (d4 (dk a)).1 (d4 (dk a)).2.1 (d6 (dk a)).1 (d6 (dk a)).2.1 (d8 (dk a)).1 (d8 (dk a)).2 c8 c9 (P1 .add .i64 b 1)
 else
 (g37 a5 a6 a7 a8 a9 ba bb bc bd be bf bg bh bi bj bk bl bm bn bo bp bq br bs bt bu bv bw bx bz b0 b1 b2 b3 b4 b5 b6 b7 b8 b9 ca cb cc cd ce cf cg ch ci cj ck cl cm cn co cp cq cr cs ct cu cv cw cx cy cz c0 c1 c2 c3 c4 c5 c6 c7).bind fun c=>
 Xa (c)):=by kernel_rfl
def ZBx (a b c d e f g h i j k:Int) (l:Bool) (m n o p q r s t u v w x y z A C D E G H:Int) (J:LL) (K L M N O P:Int) (Q:Bool) (R T U V:LL) (W X:Int) (Y Z S ab ac ad ae af:LL) (ag ah:Int) (ai aj ak al am an ao ap:LL) (aq:Bool) (ar:Int) (aZ au av aw ax ay az a0:LL):g12 a b c d e f g h i j k l m n o p q r s t u v w x y z A C D E G H J K L M N O P Q R T U V W X Y Z S ab ac ad ae af ag ah ai aj ak al am an ao ap aq ar aZ au av aw ax ay az a0 =
 ((g32 a).bind fun a1=>
 if (!a1.2) then
 Xa (Xc)
 else
 (g33 b).bind fun a2=>
 if (!a2) then
 Xa (Xc)
 else
 (g34 c).bind fun a3=>
 if (!a3) then
 Xa (Xc)
 else
 (g34 d).bind fun a4=>
 if (!a4) then
 Xa (Xc)
 else
 Zsc Zr a b c d e f g h i j k l m n o p q r s t u v w x y z A C D E G H J K L M N O P Q R T U V W X Y Z S ab ac ad ae af ag ah ai aj ak al am an ao ap aq ar aZ au av aw ax ay az a0 a b c d e f g h i j k l m n o p q r s t u v w x y z A C D E G H J K L M N O P Q R T U V W X Y Z S ab ac ad ae af ag ah ai aj ak al am an ao ap aq ar aZ au av aw ax ay az a0 a1.1 (Xh a1.1:Int) 0):=by kernel_rfl
noncomputable def F50:Fn:=⟨9,[2],[],[],0,[],[],Tryz.f50,[.c (.int .i64)],[.c (.bool)],[]⟩
def ZIR:F50.S.Ok Tryz.prog 50:=F50.ok Tryz.func50
noncomputable def g50 (a:Int):Option (Bool):=F50.S.g [.i a]
def ZzE (a:Int):g50 a =
 (if P0 .geq a 0 then
 Xa ((P0 .leq a 1073741824))
 else
 Xa (Xc)):=by kernel_rfl
noncomputable def F51:Fn:=⟨9,[2],[],[],0,[],[],Tryz.f51,[.c (.int .i64)],[.c (.bool)],[]⟩
def Zyw:F51.S.Ok Tryz.prog 51:=F51.ok Tryz.func51
noncomputable def g51 (a:Int):Option (Bool):=F51.S.g [.i a]
def ZyE (a:Int):g51 a =
 (if P0 .geq a 0 then
 Xa ((P0 .lss a 32))
 else
 Xa (Xc)):=by kernel_rfl
noncomputable def Zt8:Fn:=⟨31,[2],[],[],0,[],[],Tryz.f128,[.agg [.int .i64,.int .i64,.int .i64]],[.c (.bool)],[]⟩
def ZoS:Zt8.S.Ok Tryz.prog 128:=Zt8.ok Tryz.func128
noncomputable def ZtN (a b c:Int):Option (Bool):=Zt8.S.g [.i a,.i b,.i c]
def Zu5 (a b c:Int):ZtN a b c =
 (if P0 .geq a 0 then
 if P0 .lss a 32 then
 if P0 .geq b 1 then
 if P0 .leq b 1073741824 then
 if P0 .geq c 0 then
 Xa ((P0 .lss c 8))
 else
 Xa (Xc)
 else
 Xa (Xc)
 else
 Xa (Xc)
 else
 Xa (Xc)
 else
 Xa (Xc)):=by kernel_rfl
noncomputable def F53:Fn:=⟨10,[2],[],[],0,[],[],Tryz.f53,[.agg [.int .i64,.int .i64,.int .i64]],[.c (.bool)],[(128,Zt8.S)]⟩
def ZHn:F53.S.Ok Tryz.prog 53:=F53.ok Tryz.func53 ⟨ZoS,trivial⟩
noncomputable def g53 (a b c:Int):Option (Bool):=F53.S.g [.i a,.i b,.i c]
def ZyV (b c a:Int):g53 b c a =
 ((ZtN b c a).bind fun d=>
 if d then
 Xa ((P0 .eql a 0))
 else
 Xa (Xc)):=by kernel_rfl
noncomputable def F62:Fn:=⟨9,[2],[],[],0,[],[],Tryz.f62,[.c (.int .i64)],[.c (.bool)],[]⟩
def ZDk:F62.S.Ok Tryz.prog 62:=F62.ok Tryz.func62
noncomputable def g62 (a:Int):Option (Bool):=F62.S.g [.i a]
def ZBy (a:Int):g62 a =
 (if P0 .geq a 0 then
 Xa ((P0 .lss a 16))
 else
 Xa (Xc)):=by kernel_rfl
noncomputable def F69:Fn:=⟨26,[4],[(4,[(0,.c (.slice 3)),(1,.c (.slice 3)),(5,.c (.int .i64))])],[],0,[],[],Tryz.f69,[.c (.slice 3),.c (.slice 3)],[.c (.bool)],[]⟩
def ZFY:F69.S.Ok Tryz.prog 69:=F69.ok Tryz.func69
noncomputable def g69 (a b:LL):Option (Bool):=F69.S.g [.l a,.l b]
noncomputable def Ztj (k:Nat) (a b:LL) (c:Int):Option (Bool):=F69.lp [1,0] 0 r0 k [.l a,.l b,.i c]
def Zm7 (k:Nat) (b c:LL) (a:Int):Ztj (k+1) b c a =
 (if P0 .lss a (Xh b:Int) then
 Zj b a [.int .i64,.int .i64,.int .i64] fun (d:Int×Int×Int)=>
 Zj c a [.int .i64,.int .i64,.int .i64] fun (e:Int×Int×Int)=>
 if (!((P0 .eql d.1 e.1)&&((P0 .eql d.2.1 e.2.1)&&((P0 .eql d.2.2 e.2.2)&&Xb)))) then
 Xa (Xc)
 else
 Ztj k b c (P1 .add .i64 a 1)
 else
 Xa (Xb)):=by kernel_rfl
def ZAb (a b:LL):g69 a b =
 (if P0 .neq (Xh a:Int) (Xh b:Int) then
 Xa (Xc)
 else
 Ztj Zr a b 0):=by kernel_rfl
noncomputable def ZrV:Fn:=⟨24,[4],[],[],0,[],[],Tryz.f127,[.agg hs16,.agg hs16],[.c (.bool)],[(69,F69.S)]⟩
def Zn8:ZrV.S.Ok Tryz.prog 127:=ZrV.ok Tryz.func127 ⟨ZFY,trivial⟩
noncomputable def ZqO (a c d:Int) (e:LL) (f h j k m n:Int) (o:Bool) (p q r:Int) (s:LL) (t u v w x y:Int) (z:Bool):Option (Bool):=ZrV.S.g [.i a,.i c,.i d,.l e,.i f,.i h,.i j,.i k,.i m,.i n,.b o,.i p,.i q,.i r,.l s,.i t,.i u,.i v,.i w,.i x,.i y,.b z]
def ZwS (a b c:Int) (d:LL) (e f g h i j:Int) (k:Bool) (l m n:Int) (o:LL) (p q r s t u:Int) (v:Bool):ZqO a b c d e f g h i j k l m n o p q r s t u v =
 (if ((P0 .eql a l)&&((P0 .eql b m)&&((P0 .eql c n)&&Xb))) then
 if ((P0 .eql e p)&&((P0 .eql f q)&&((P0 .eql g r)&&((P0 .eql h s)&&((P0 .eql i t)&&((P0 .eql j u)&&((k == v)&&Xb))))))) then
 (g69 d o).bind fun w=>
 Xa (w)
 else
 Xa (Xc)
 else
 Xa (Xc)):=by kernel_rfl
noncomputable def ZDK:Fn:=⟨12,[2],[],[],0,[],[],Tryz.f195,[.c (.int .i64)],[.c (.int .i64)],[]⟩
def ZHe:ZDK.S.Ok Tryz.prog 195:=ZDK.ok Tryz.func195
noncomputable def ZEz (a:Int):Option (Int):=ZDK.S.g [.i a]
def Zxj (a:Int):ZEz a =
 (if P0 .eql a 3 then
 Xa (12)
 else
 if P0 .eql a 4 then
 Xa (6)
 else
 if P0 .eql a 5 then
 Xa (10)
 else
 if P0 .eql a 6 then
 Xa (16)
 else
 Xa (0)):=by kernel_rfl
noncomputable def ZC4:Fn:=⟨35,[4],[],[],0,[],[],Tryz.f162,[.c (.int .i64),.c (.int .i64)],[.c (.bool)],[(195,ZDK.S)]⟩
def ZAR:ZC4.S.Ok Tryz.prog 162:=ZC4.ok Tryz.func162 ⟨ZHe,trivial⟩
noncomputable def ZDJ (a b:Int):Option (Bool):=ZC4.S.g [.i a,.i b]
def Zxd (a b:Int):ZDJ a b =
 (if P0 .eql a 1 then
 if P0 .geq b 6 then
 Xa ((P0 .leq b 40))
 else
 Xa (Xc)
 else
 if P0 .eql a 2 then
 if P0 .geq b 12 then
 Xa ((P0 .leq b 40))
 else
 Xa (Xc)
 else
 if P0 .geq a 3 then
 if P0 .leq a 6 then
 (ZEz a).bind fun c=>
 Xa ((P0 .eql b c))
 else
 Xa (Xc)
 else
 Xa (Xc)):=by kernel_rfl
noncomputable def ZCH:Fn:=⟨8,[2],[],[],0,[],[],Tryz.f159,[.agg hs27],[.agg [.int .i64,.int .i64]],[]⟩
def ZyT:ZCH.S.Ok Tryz.prog 159:=ZCH.ok Tryz.func159
noncomputable def Zpo (a c d e f h:Int) (j:Bool):Option (Int×Int):=ZCH.S.g [.i a,.i c,.i d,.i e,.i f,.i h,.b j]
def Zuq (c a b d e f:Int) (g:Bool):Zpo c a b d e f g =
 (Xa (a,b)):=by kernel_rfl
noncomputable def Zxt:Fn:=⟨38,[2],[],[],0,[],[],Tryz.f185,[.agg [.int .i64,.int .i64]],[.c (.bool)],[]⟩
def ZsU:Zxt.S.Ok Tryz.prog 185:=Zxt.ok Tryz.func185
noncomputable def ZtT (a b:Int):Option (Bool):=Zxt.S.g [.i a,.i b]
def Zwh (b a:Int):ZtT b a =
 (if P0 .lss a 6 then
 Xa (Xc)
 else
 if P0 .gtr a 40 then
 Xa (Xc)
 else
 if P0 .lss b 0 then
 Xa (Xc)
 else
 if P0 .geq b 1099511627776 then
 Xa (Xc)
 else
 Zy ((0:Int)≤(Xi .u64 a))<|
 Zy (((P1 .shl .i64 1 (Xi .u64 a)):Int)≠0)<|
 if (P0 .eql (P1 .rem .i64 b (P1 .shl .i64 1 (Xi .u64 a))) 0) then
 Xa ((P0 .leq (P1 .add .i64 b (P1 .shl .i64 1 (Xi .u64 a))) 1099511627776))
 else
 Xa (Xc)):=by kernel_rfl
noncomputable def ZB2:Fn:=⟨23,[4],[],[],0,[],[],Tryz.f163,[.c (.int .i64),.c (.int .i64)],[.c (.bool)],[]⟩
def Zzd:ZB2.S.Ok Tryz.prog 163:=ZB2.ok Tryz.func163
noncomputable def ZDe (a b:Int):Option (Bool):=ZB2.S.g [.i a,.i b]
def Zuj (b a:Int):ZDe b a =
 (if P0 .geq a 0 then
 if P0 .eql b 32 then
 if P0 .leq a 1 then
 Xa (Xb)
 else
 if P0 .eql b 39 then
 Xa ((P0 .leq a 2))
 else
 Xa (Xc)
 else
 if P0 .eql b 39 then
 Xa ((P0 .leq a 2))
 else
 Xa (Xc)
 else
 Xa (Xc)):=by kernel_rfl
noncomputable def ZtM:Fn:=⟨64,[2],[],[],0,[],[],Tryz.f130,[.agg hs27],[.c (.bool)],[(162,ZC4.S),(159,ZCH.S),(185,Zxt.S),(163,ZB2.S)]⟩
def Zpg:ZtM.S.Ok Tryz.prog 130:=ZtM.ok Tryz.func130 ⟨ZAR,⟨ZyT,⟨ZsU,⟨Zzd,trivial⟩⟩⟩⟩
noncomputable def ZxA (a c d e f h:Int) (j:Bool):Option (Bool):=ZtM.S.g [.i a,.i c,.i d,.i e,.i f,.i h,.b j]
def Zwf (a g f e c d:Int) (b:Bool):ZxA a g f e c d b =
 ((ZDJ a f).bind fun i=>
 if (!i) then
 Xa (Xc)
 else
 (Zpo a g f e c d b).bind fun h=>
 (ZtT h.1 h.2).bind fun j=>
 if (!j) then
 Xa (Xc)
 else
 if P0 .lss e 0 then
 Xa (Xc)
 else
 if P0 .gtr e 7 then
 Xa (Xc)
 else
 if P0 .eql a 3 then
 (ZDe c d).bind fun k=>
 if (!k) then
 Xa (Xc)
 else
 if P0 .neq a 3 then
 if P0 .neq c 0 then
 Xa (Xc)
 else
 if P0 .neq d 0 then
 Xa (Xc)
 else
 if (!b) then
 Xa (Xb)
 else
 if P0 .eql a 1 then
 Xa (Xb)
 else
 Xa ((P0 .eql a 2))
 else
 if (!b) then
 Xa (Xb)
 else
 if P0 .eql a 1 then
 Xa (Xb)
 else
 Xa ((P0 .eql a 2))
 else
 if P0 .neq a 3 then
 if P0 .neq c 0 then
 Xa (Xc)
 else
 if P0 .neq d 0 then
 Xa (Xc)
 else
 if (!b) then
 Xa (Xb)
 else
 if P0 .eql a 1 then
 Xa (Xb)
 else
 Xa ((P0 .eql a 2))
 else
 if (!b) then
 Xa (Xb)
 else
 if P0 .eql a 1 then
 Xa (Xb)
 else
 Xa ((P0 .eql a 2))):=by kernel_rfl
noncomputable def F78:Fn:=⟨18,[4],[(2,[(0,.c (.slice 3)),(3,.box [.int .i64,.int .i64,.int .i64]),(5,.c (.int .i64))])],[],0,[],[],Tryz.f78,[.c (.slice 3),.agg [.int .i64,.int .i64,.int .i64]],[.c (.bool)],[]⟩
def ZFi:F78.S.Ok Tryz.prog 78:=F78.ok Tryz.func78
noncomputable def g78 (a:LL) (b c d:Int):Option (Bool):=F78.S.g [.l a,.i b,.i c,.i d]
noncomputable def ZrS (k:Nat) (a:LL) (b c d e:Int):Option (Bool):=F78.lp [0] 0 r0 k [.l a,.i b,.i c,.i d,.i e]
def ZmK (k:Nat) (a:LL) (c d e b:Int):ZrS (k+1) a c d e b =
 (if P0 .lss b (Xh a:Int) then
 Zj a b [.int .i64,.int .i64,.int .i64] fun (f:Int×Int×Int)=>
 if ((P0 .eql f.1 c)&&((P0 .eql f.2.1 d)&&((P0 .eql f.2.2 e)&&Xb))) then
 Xa (Xb)
 else
 ZrS k a c d e (P1 .add .i64 b 1)
 else
 Xa (Xc)):=by kernel_rfl
def Zzb (a:LL) (b c d:Int):g78 a b c d =
 (ZrS Zr a b c d 0):=by kernel_rfl
noncomputable def F61:Fn:=⟨53,[2],[(4,[(1,.box hs16),(3,.c (.int .i64))])],[],0,[],[],Tryz.f61,[.agg hs16],[.c (.bool)],[(128,Zt8.S),(130,ZtM.S),(78,F78.S)]⟩
def ZxY:F61.S.Ok Tryz.prog 61:=F61.ok Tryz.func61 ⟨ZoS,⟨Zpg,⟨ZFi,trivial⟩⟩⟩
noncomputable def g61 (a c d:Int) (e:LL) (f h j k m n:Int) (o:Bool):Option (Bool):=F61.S.g [.i a,.i c,.i d,.l e,.i f,.i h,.i j,.i k,.i m,.i n,.b o]
noncomputable def Ztn (k:Nat) (a c d:Int) (e:LL) (f g h j m n:Int) (o:Bool) (p:Int):Option (Bool):=F61.lp [0,1,0,1,1,0,1,0] 0 r0 k [.i a,.i c,.i d,.l e,.i f,.i g,.i h,.i j,.i m,.i n,.b o,.i p]
def Znw (k:Nat) (e f g:Int) (b:LL) (h i j l m n:Int) (o:Bool) (a:Int):Ztn (k+1) e f g b h i j l m n o a =
 (if P0 .lss a (Xh b:Int) then
 Zj b a [.int .i64,.int .i64,.int .i64] fun (c:Int×Int×Int)=>
 (ZtN c.1 c.2.1 c.2.2).bind fun p=>
 if (!p) then
 Xa (Xc)
 else
 Zy ((0:Int)≤a)<|
 Zy ((a:Int)≤(Xh b:Int))<|
 Zj b a [.int .i64,.int .i64,.int .i64] fun (d:Int×Int×Int)=>
 (g78 (UK (XJ a) b) d.1 d.2.1 d.2.2).bind fun q=>
 if q then
 Xa (Xc)
 else
 Ztn k e f g b h i j l m n o (P1 .add .i64 a 1)
 else
 Xa (Xb)):=by kernel_rfl
def ZCe (a b c:Int) (d:LL) (e f g h i j:Int) (k:Bool):g61 a b c d e f g h i j k =
 ((ZtN a b c).bind fun l=>
 if (!l) then
 Xa (Xc)
 else
 (ZxA e f g h i j k).bind fun m=>
 if (!m) then
 Xa (Xc)
 else
 if P0 .gtr (Xh d:Int) 8 then
 Xa (Xc)
 else
 (g78 d a b c).bind fun n=>
 if n then
 Xa (Xc)
 else
 Ztn Zr a b c d e f g h i j k 0):=by kernel_rfl
noncomputable def F52:Fn:=⟨46,[2],[],[],0,[],[],Tryz.f52,[.agg hs6],[.c (.bool)],[(53,F53.S),(62,F62.S),(127,ZrV.S),(61,F61.S)]⟩
def ZI5:F52.S.Ok Tryz.prog 52:=F52.ok Tryz.func52 ⟨ZHn,⟨ZDk,⟨Zn8,⟨ZxY,trivial⟩⟩⟩⟩
noncomputable def g52 (a c d e f h j k m n o p q r s t u v w x:Int) (y:LL) (z A C D E G:Int) (H:Bool):Option (Bool):=F52.S.g [.i a,.i c,.i d,.i e,.i f,.i h,.i j,.i k,.i m,.i n,.i o,.i p,.i q,.i r,.i s,.i t,.i u,.i v,.i w,.i x,.l y,.i z,.i A,.i C,.i D,.i E,.i G,.b H]
def Zy9 (o p q b s t u v w x y z A C D r n c d e:Int) (f:LL) (g h i j k l:Int) (m:Bool):g52 o p q b s t u v w x y z A C D r n c d e f g h i j k l m =
 ((g53 o p q).bind fun E=>
 if (!E) then
 Xa (Xc)
 else
 if P0 .lss b 1 then
 Xa (Xc)
 else
 if P0 .gtr b 6 then
 Xa (Xc)
 else
 (g62 r).bind fun G=>
 if (!G) then
 Xa (Xc)
 else
 if P0 .neq n 32 then
 if P0 .neq n 39 then
 Xa (Xc)
 else
 if P0 .eql b 1 then
 (ZqO c d e f g h i j k l m 0 0 0 E0 0 0 0 0 0 0 Xc).bind fun a=>
 Xa (a)
 else
 (g61 c d e f g h i j k l m).bind fun a=>
 Xa (a)
 else
 if P0 .eql b 1 then
 (ZqO c d e f g h i j k l m 0 0 0 E0 0 0 0 0 0 0 Xc).bind fun a=>
 Xa (a)
 else
 (g61 c d e f g h i j k l m).bind fun a=>
 Xa (a)):=by kernel_rfl
noncomputable def F54:Fn:=⟨9,[2],[],[],0,[],[],Tryz.f54,[.c (.int .i64)],[.c (.bool)],[]⟩
def ZJm:F54.S.Ok Tryz.prog 54:=F54.ok Tryz.func54
noncomputable def g54 (a:Int):Option (Bool):=F54.S.g [.i a]
def ZyI (a:Int):g54 a =
 (if P0 .geq a 0 then
 Xa ((P0 .leq a 99))
 else
 Xa (Xc)):=by kernel_rfl
noncomputable def F55:Fn:=⟨29,[4],[(2,[(0,.c (.slice 3)),(1,.c (.bool)),(5,.c (.int .i64))])],[],0,[],[],Tryz.f55,[.c (.slice 3),.c (.bool)],[.c (.bool)],[(128,Zt8.S)]⟩
def ZI2:F55.S.Ok Tryz.prog 55:=F55.ok Tryz.func55 ⟨ZoS,trivial⟩
noncomputable def g55 (a:LL) (c:Bool):Option (Bool):=F55.S.g [.l a,.b c]
noncomputable def Ziy (k:Nat) (a:LL) (c:Bool) (d:Int):Option (Bool):=F55.lp [0] 0 r0 k [.l a,.b c,.i d]
def Zmc (k:Nat) (a:LL) (c:Bool) (b:Int):Ziy (k+1) a c b =
 (if P0 .lss b (Xh a:Int) then
 Zj a b [.int .i64,.int .i64,.int .i64] fun (d:Int×Int×Int)=>
 (ZtN d.1 d.2.1 d.2.2).bind fun e=>
 if (!e) then
 Xa (Xc)
 else
 if c then
 Zj a b [.int .i64,.int .i64,.int .i64] fun (f:Int×Int×Int)=>
 if P0 .neq f.2.2 0 then
 Xa (Xc)
 else
 Ziy k a c (P1 .add .i64 b 1)
 else
 Ziy k a c (P1 .add .i64 b 1)
 else
 Xa (Xb)):=by kernel_rfl
def ZB3 (a:LL) (b:Bool):g55 a b =
 (Ziy Zr a b 0):=by kernel_rfl
noncomputable def F56:Fn:=⟨32,[2],[(2,[(0,.c (.slice 1)),(3,.c (.int .i64))])],[],0,[],[],Tryz.f56,[.c (.slice 1)],[.c (.bool)],[(51,F51.S)]⟩
def ZJH:F56.S.Ok Tryz.prog 56:=F56.ok Tryz.func56 ⟨Zyw,trivial⟩
noncomputable def g56 (a:LL):Option (Bool):=F56.S.g [.l a]
noncomputable def ZiH (k:Nat) (a:LL) (b:Int):Option (Bool):=F56.lp [0] 0 r0 k [.l a,.i b]
def Znl (k:Nat) (b:LL) (a:Int):ZiH (k+1) b a =
 (if P0 .lss a (Xh b:Int) then
 Zj b a [.int .i64] fun (c:Int)=>
 (g51 c).bind fun d=>
 if (!d) then
 Xa (Xc)
 else
 if P0 .gtr a 0 then
 Zj b a [.int .i64] fun (e:Int)=>
 Zj b (P1 .sub .i64 a 1) [.int .i64] fun (f:Int)=>
 if P0 .leq e f then
 Xa (Xc)
 else
 ZiH k b (P1 .add .i64 a 1)
 else
 ZiH k b (P1 .add .i64 a 1)
 else
 Xa (Xb)):=by kernel_rfl
def ZyC (a:LL):g56 a =
 (ZiH Zr a 0):=by kernel_rfl
noncomputable def F79:Fn:=⟨18,[4],[(2,[(0,.c (.slice 1)),(1,.c (.int .i64)),(5,.c (.int .i64))])],[],0,[],[],Tryz.f79,[.c (.slice 1),.c (.int .i64)],[.c (.bool)],[]⟩
def ZIE:F79.S.Ok Tryz.prog 79:=F79.ok Tryz.func79
noncomputable def g79 (a:LL) (b:Int):Option (Bool):=F79.S.g [.l a,.i b]
noncomputable def Zlu (k:Nat) (a:LL) (b c:Int):Option (Bool):=F79.lp [0] 0 r0 k [.l a,.i b,.i c]
def ZlR (k:Nat) (a:LL) (c b:Int):Zlu (k+1) a c b =
 (if P0 .lss b (Xh a:Int) then
 Zj a b [.int .i64] fun (d:Int)=>
 if P0 .eql d c then
 Xa (Xb)
 else
 Zlu k a c (P1 .add .i64 b 1)
 else
 Xa (Xc)):=by kernel_rfl
def ZCR (a:LL) (b:Int):g79 a b =
 (Zlu Zr a b 0):=by kernel_rfl
noncomputable def F58:Fn:=⟨61,[2],[(4,[(1,.box [.int .i64,.slice 1,.slice 1]),(3,.c (.int .i64))]),(9,[(1,.box [.int .i64,.slice 1,.slice 1]),(4,.c (.int .i64))])],[],0,[],[],Tryz.f58,[.agg [.int .i64,.slice 1,.slice 1]],[.c (.bool)],[(50,F50.S),(51,F51.S),(79,F79.S)]⟩
def ZJr:F58.S.Ok Tryz.prog 58:=F58.ok Tryz.func58 ⟨ZIR,⟨Zyw,⟨ZIE,trivial⟩⟩⟩
noncomputable def g58 (a:Int) (b c:LL):Option (Bool):=F58.S.g [.i a,.l b,.l c]
noncomputable def ZkF (k:Nat) (a:Int) (b c:LL) (d:Int):Option (Bool):=F58.lp [0,1,1,1,0,1,0] 0 r0 k [.i a,.l b,.l c,.i d]
def ZmZ (k:Nat) (c:Int) (d a:LL) (b:Int):ZkF (k+1) c d a b =
 (if P0 .lss b (Xh a:Int) then
 Zj a b [.int .i64] fun (e:Int)=>
 (g51 e).bind fun f=>
 if (!f) then
 Xa (Xc)
 else
 ZkF k c d a (P1 .add .i64 b 1)
 else
 Xa (Xb)):=by kernel_rfl
noncomputable def ZkQ (k:Nat) (a:Int) (b c:LL) (d:Int):Option (Bool):=F58.lp [0,1,1,1,0] 0 r0 k [.i a,.l b,.l c,.i d]
def Zmh (k:Nat) (c:Int) (a d:LL) (b:Int):ZkQ (k+1) c a d b =
 (if P0 .lss b (Xh a:Int) then
 Zj a b [.int .i64] fun (e:Int)=>
 (g51 e).bind fun f=>
 if (!f) then
 Xa (Xc)
 else
 Zy ((0:Int)≤b)<|
 Zy ((b:Int)≤(Xh a:Int))<|
 Zj a b [.int .i64] fun (g:Int)=>
 (g79 (UK (XJ b) a) g).bind fun h=>
 if h then
 Xa (Xc)
 else
 ZkQ k c a d (P1 .add .i64 b 1)
 else
 ZkF Zr c a d 0):=by kernel_rfl
def ZC5 (a:Int) (b c:LL):g58 a b c =
 ((g50 a).bind fun d=>
 if (!d) then
 Xa (Xc)
 else
 if P0 .gtr (Xh b:Int) 32 then
 Xa (Xc)
 else
 if P0 .gtr (Xh c:Int) 16 then
 Xa (Xc)
 else
 ZkQ Zr a b c 0):=by kernel_rfl
noncomputable def F81:Fn:=⟨8,[2],[],[],0,[],[],Tryz.f81,[.agg hs11],[.c (.bool)],[]⟩
def ZGL:F81.S.Ok Tryz.prog 81:=F81.ok Tryz.func81
noncomputable def g81 (a c d:Int) (e:LL) (f h j k m n:Int) (o:Bool) (p q r s:Int):Option (Bool):=F81.S.g [.i a,.i c,.i d,.l e,.i f,.i h,.i j,.i k,.i m,.i n,.b o,.i p,.i q,.i r,.i s]
def Zqk (a b c:Int) (d:LL) (e f g h i j:Int) (k:Bool) (l m n o:Int):g81 a b c d e f g h i j k l m n o =
 (Xa (((P0 .eql a 0)&&((P0 .eql b 0)&&((P0 .eql c 0)&&Xb))))):=by kernel_rfl
noncomputable def ZB6:Fn:=⟨29,[4],[(2,[(0,.c (.slice 15)),(3,.box [.int .i64,.int .i64,.int .i64]),(5,.c (.int .i64))])],[],0,[],[],Tryz.f184,[.c (.slice 15),.agg [.int .i64,.int .i64,.int .i64]],[.c (.int .i64)],[(81,F81.S)]⟩
def ZHW:ZB6.S.Ok Tryz.prog 184:=ZB6.ok Tryz.func184 ⟨ZGL,trivial⟩
noncomputable def ZD4 (a:LL) (b c d:Int):Option (Int):=ZB6.S.g [.l a,.i b,.i c,.i d]
noncomputable def ZdG (k:Nat) (a:LL) (b c d e:Int):Option (Int):=ZB6.lp [0] 0 r0 k [.l a,.i b,.i c,.i d,.i e]
def Zis (k:Nat) (c:LL) (d e f b:Int):ZdG (k+1) c d e f b =
 (if P0 .lss b (Xh c:Int) then
 Zj c b hs11 fun (a:Qt21)=>
 (g81 a.1 a.2.1 a.2.2.1 a.2.2.2.1 (d4 a).1 (d4 a).2.1 (d6 a).1 (d6 a).2.1 (d8 a).1 (d8 a).2.1 (df a).1 (df a).2.1 (dg a).1 (dg a).2.1 (dh a)).bind fun h=>
 if (!h) then
 Zj c b hs11 fun (g:Qt21)=>
 if ((P0 .eql g.1 d)&&((P0 .eql g.2.1 e)&&((P0 .eql g.2.2.1 f)&&Xb))) then
 Xa (b)
 else
 ZdG k c d e f (P1 .add .i64 b 1)
 else
 ZdG k c d e f (P1 .add .i64 b 1)
 else
 Xa ((-1))):=by kernel_rfl
def ZwQ (a:LL) (b c d:Int):ZD4 a b c d =
 (ZdG Zr a b c d 0):=by kernel_rfl
noncomputable def ZBd:Fn:=⟨70,[2],[(4,[(0,.c (.slice 15)),(3,.c (.int .i64))])],[],0,[],[],Tryz.f129,[.c (.slice 15)],[.c (.bool)],[(128,Zt8.S),(81,F81.S),(127,ZrV.S),(61,F61.S),(184,ZB6.S)]⟩
def ZH6:ZBd.S.Ok Tryz.prog 129:=ZBd.ok Tryz.func129 ⟨ZoS,⟨ZGL,⟨Zn8,⟨ZxY,⟨ZHW,trivial⟩⟩⟩⟩⟩
noncomputable def ZEF (a:LL):Option (Bool):=ZBd.S.g [.l a]
noncomputable def Zau (k:Nat) (a:LL) (b:Int):Option (Bool):=ZBd.lp [1,0] 0 r0 k [.l a,.i b]
def Zju (k:Nat) (b:LL) (c:Int):Zau (k+1) b c =
 (if P0 .lss c (Xh b:Int) then
 Zj b c hs11 fun (a:Qt21)=>
 if P0 .lss (df a).2.1 0 then
 Xa (Xc)
 else
 if P0 .gtr (df a).2.1 1073741824 then
 Xa (Xc)
 else
 if (!((P0 .eql (dg a).1 0)&&((P0 .eql (dg a).2.1 0)&&((P0 .eql (dh a) 0)&&Xb)))) then
 (ZtN (dg a).1 (dg a).2.1 (dh a)).bind fun f=>
 if (!f) then
 Xa (Xc)
 else
 if P0 .neq (dh a) 0 then
 Xa (Xc)
 else
 (g81 a.1 a.2.1 a.2.2.1 a.2.2.2.1 (d4 a).1 (d4 a).2.1 (d6 a).1 (d6 a).2.1 (d8 a).1 (d8 a).2.1 (df a).1 (df a).2.1 (dg a).1 (dg a).2.1 (dh a)).bind fun d=>
 if d then
 (ZqO a.1 a.2.1 a.2.2.1 a.2.2.2.1 (d4 a).1 (d4 a).2.1 (d6 a).1 (d6 a).2.1 (d8 a).1 (d8 a).2.1 (df a).1 0 0 0 E0 0 0 0 0 0 0 Xc).bind fun e=>
 if (!e) then
 Xa (Xc)
 else
 if (!((P0 .eql (dg a).1 0)&&((P0 .eql (dg a).2.1 0)&&((P0 .eql (dh a) 0)&&Xb)))) then
 Xa (Xc)
 else
 Zau k b (P1 .add .i64 c 1)
 else
 (g61 a.1 a.2.1 a.2.2.1 a.2.2.2.1 (d4 a).1 (d4 a).2.1 (d6 a).1 (d6 a).2.1 (d8 a).1 (d8 a).2.1 (df a).1).bind fun e=>
 if (!e) then
 Xa (Xc)
 else
 (ZD4 b a.1 a.2.1 a.2.2.1).bind fun g=>
 if P0 .neq g c then
 Xa (Xc)
 else
 Zau k b (P1 .add .i64 c 1)
 else
 (g81 a.1 a.2.1 a.2.2.1 a.2.2.2.1 (d4 a).1 (d4 a).2.1 (d6 a).1 (d6 a).2.1 (d8 a).1 (d8 a).2.1 (df a).1 (df a).2.1 (dg a).1 (dg a).2.1 (dh a)).bind fun f=>
 if f then
 (ZqO a.1 a.2.1 a.2.2.1 a.2.2.2.1 (d4 a).1 (d4 a).2.1 (d6 a).1 (d6 a).2.1 (d8 a).1 (d8 a).2.1 (df a).1 0 0 0 E0 0 0 0 0 0 0 Xc).bind fun d=>
 if (!d) then
 Xa (Xc)
 else
 if (!((P0 .eql (dg a).1 0)&&((P0 .eql (dg a).2.1 0)&&((P0 .eql (dh a) 0)&&Xb)))) then
 Xa (Xc)
 else
 Zau k b (P1 .add .i64 c 1)
 else
 (g61 a.1 a.2.1 a.2.2.1 a.2.2.2.1 (d4 a).1 (d4 a).2.1 (d6 a).1 (d6 a).2.1 (d8 a).1 (d8 a).2.1 (df a).1).bind fun d=>
 if (!d) then
 Xa (Xc)
 else
 (ZD4 b a.1 a.2.1 a.2.2.1).bind fun e=>
 if P0 .neq e c then
 Xa (Xc)
 else
 Zau k b (P1 .add .i64 c 1)
 else
 Xa (Xb)):=by kernel_rfl
def ZuF (a:LL):ZEF a =
 (if P0 .gtr (Xh a:Int) 64 then
 Xa (Xc)
 else
 Zau Zr a 0):=by kernel_rfl
noncomputable def F82:Fn:=⟨30,[4],[],[],0,[],[],Tryz.f82,[.agg [.int .i64,.int .i64,.int .i64],.agg [.int .i64,.int .i64,.int .i64]],[.c (.bool)],[]⟩
def ZEA:F82.S.Ok Tryz.prog 82:=F82.ok Tryz.func82
noncomputable def g82 (a b c d e f:Int):Option (Bool):=F82.S.g [.i a,.i b,.i c,.i d,.i e,.i f]
def ZCI (a b e c d f:Int):g82 a b e c d f =
 (if P0 .neq a c then
 Xa ((P0 .lss a c))
 else
 if P0 .neq b d then
 Xa ((P0 .lss b d))
 else
 Xa ((P0 .lss e f))):=by kernel_rfl
noncomputable def F59:Fn:=⟨186,[2],[(4,[(1,.box hs30),(3,.c (.int .i64))]),(9,[(1,.box hs30),(4,.c (.int .i64))]),(15,[(1,.box hs30),(6,.c (.int .i64))]),(21,[(1,.box hs30),(8,.c (.int .i64))])],[],0,[],[],Tryz.f59,[.agg hs30],[.c (.bool)],[(129,ZBd.S),(55,F55.S),(52,F52.S),(82,F82.S),(62,F62.S),(53,F53.S),(54,F54.S),(51,F51.S),(61,F61.S)]⟩
def ZIq:F59.S.Ok Tryz.prog 59:=F59.ok Tryz.func59 ⟨ZH6,⟨ZI2,⟨ZI5,⟨ZEA,⟨ZDk,⟨ZHn,⟨ZJm,⟨Zyw,⟨ZxY,trivial⟩⟩⟩⟩⟩⟩⟩⟩⟩
noncomputable def g59 (a b c d e f:LL):Option (Bool):=F59.S.g [.l a,.l b,.l c,.l d,.l e,.l f]
noncomputable def ZdP (k:Nat) (a b c d e f:LL) (g:Int):Option (Bool):=F59.lp [0,1,0,1,0,1,0,1,0,1,0] 0 r0 k [.l a,.l b,.l c,.l d,.l e,.l f,.i g]
def ZlY (k:Nat) (d e f g c h:LL) (b:Int):ZdP (k+1) d e f g c h b =
 (if P0 .lss b (Xh c:Int) then
 Zj c b hs12 fun (a:Qt25)=>
 (g51 a.1).bind fun j=>
 if (!j) then
 Xa (Xc)
 else
 if P0 .lss a.2.1 0 then
 Xa (Xc)
 else
 if P0 .geq a.2.1 64 then
 Xa (Xc)
 else
 (g61 a.2.2.1 a.2.2.2.1 (d4 a).1 (d4 a).2.1 (d6 a).1 (d6 a).2.1 (d8 a).1 (d8 a).2.1 (df a).1 (df a).2.1 (dg a)).bind fun l=>
 if (!l) then
 Xa (Xc)
 else
 if P0 .gtr b 0 then
 Zj c (P1 .sub .i64 b 1) hs12 fun (i:Qt25)=>
 (g82 i.2.2.1 i.2.2.2.1 (d4 i).1 a.2.2.1 a.2.2.2.1 (d4 a).1).bind fun m=>
 if (!m) then
 Xa (Xc)
 else
 ZdP k d e f g c h (P1 .add .i64 b 1)
 else
 ZdP k d e f g c h (P1 .add .i64 b 1)
 else
 Xa (Xb)):=by kernel_rfl
noncomputable def ZeE (k:Nat) (a b c d e f:LL) (g:Int):Option (Bool):=F59.lp [0,1,0,1,0,1,0,1,0] 0 r0 k [.l a,.l b,.l c,.l d,.l e,.l f,.i g]
def Zmp (k:Nat) (c d e a f g:LL) (b:Int):ZeE (k+1) c d e a f g b =
 (if P0 .lss b (Xh a:Int) then
 Zj a b [.int .i64,.int .i64] fun (h:Int×Int)=>
 if P0 .lss h.1 1 then
 Xa (Xc)
 else
 if P0 .gtr h.1 1073741824 then
 Xa (Xc)
 else
 (g54 h.2).bind fun i=>
 if (!i) then
 Xa (Xc)
 else
 if P0 .gtr b 0 then
 Zj a (P1 .sub .i64 b 1) [.int .i64,.int .i64] fun (j:Int×Int)=>
 if P0 .leq h.1 j.1 then
 Xa (Xc)
 else
 ZeE k c d e a f g (P1 .add .i64 b 1)
 else
 ZeE k c d e a f g (P1 .add .i64 b 1)
 else
 ZdP Zr c d e a f g 0):=by kernel_rfl
noncomputable def Zdw (k:Nat) (a b c d e f:LL) (g:Int):Option (Bool):=F59.lp [0,1,0,1,0,1,0] 0 r0 k [.l a,.l b,.l c,.l d,.l e,.l f,.i g]
def Zmt (k:Nat) (d e a f g h:LL) (b:Int):Zdw (k+1) d e a f g h b =
 (if P0 .lss b (Xh a:Int) then
 Zj a b [.int .i64,.int .i64,.int .i64,.int .i64] fun (c:Int×Int×Int×Int)=>
 (g62 c.1).bind fun i=>
 if (!i) then
 Xa (Xc)
 else
 (g53 c.2.1 c.2.2.1 c.2.2.2).bind fun j=>
 if (!j) then
 Xa (Xc)
 else
 if P0 .gtr b 0 then
 Zj a (P1 .sub .i64 b 1) [.int .i64,.int .i64,.int .i64,.int .i64] fun (l:Int×Int×Int×Int)=>
 if P0 .leq c.1 l.1 then
 Xa (Xc)
 else
 Zdw k d e a f g h (P1 .add .i64 b 1)
 else
 Zdw k d e a f g h (P1 .add .i64 b 1)
 else
 ZeE Zr d e a f g h 0):=by kernel_rfl
noncomputable def ZgM (k:Nat) (a b c d e f:LL) (g:Int):Option (Bool):=F59.lp [0,1,0,1,0] 0 r0 k [.l a,.l b,.l c,.l d,.l e,.l f,.i g]
def ZmI (k:Nat) (d b e f g h:LL) (c:Int):ZgM (k+1) d b e f g h c =
 (if P0 .lss c (Xh b:Int) then
 Zj b c hs6 fun (a:Qt10)=>
 (g52 a.1 a.2.1 a.2.2.1 a.2.2.2.1 (d4 a).1 (d4 a).2.1 (d6 a).1 (d6 a).2.1 (d8 a).1 (d8 a).2.1 (df a).1 (df a).2.1 (dg a).1 (dg a).2.1 (dh a).1 (dh a).2.1 (P2 a).1 (P2 a).2.1 (d2 (P2 a)).1 (d2 (P2 a)).2.1 (d4 (P2 a)).1 (d4 (P2 a)).2.1 (d6 (P2 a)).1 (d6 (P2 a)).2.1 (d8 (P2 a)).1 (d8 (P2 a)).2.1 (df (P2 a)).1 (df (P2 a)).2).bind fun l=>
 if (!l) then
 Xa (Xc)
 else
 if P0 .gtr c 0 then
 Zj b (P1 .sub .i64 c 1) hs6 fun (i:Qt10)=>
 Zj b c hs6 fun (j:Qt10)=>
 (g82 i.1 i.2.1 i.2.2.1 j.1 j.2.1 j.2.2.1).bind fun m=>
 if (!m) then
 Xa (Xc)
 else
 ZgM k d b e f g h (P1 .add .i64 c 1)
 else
 ZgM k d b e f g h (P1 .add .i64 c 1)
 else
 Zdw Zr d b e f g h 0):=by kernel_rfl
def ZBD (a c d e f b:LL):g59 a c d e f b =
 ((ZEF a).bind fun g=>
 if (!g) then
 Xa (Xc)
 else
 (g55 b Xb).bind fun h=>
 if (!h) then
 Xa (Xc)
 else
 ZgM Zr a c d e f b 0):=by kernel_rfl
noncomputable def F57:Fn:=⟨26,[2],[],[],0,[],[],Tryz.f57,[.agg hs7],[.c (.bool)],[(51,F51.S),(58,F58.S),(59,F59.S)]⟩
def ZLp:F57.S.Ok Tryz.prog 57:=F57.ok Tryz.func57 ⟨Zyw,⟨ZJr,⟨ZIq,trivial⟩⟩⟩
noncomputable def g57 (a c:Int) (d e f h j k m n:LL) (o:Bool) (p:Int) (q r s t u v w x:LL):Option (Bool):=F57.S.g [.i a,.i c,.l d,.l e,.l f,.l h,.l j,.l k,.l m,.l n,.b o,.i p,.l q,.l r,.l s,.l t,.l u,.l v,.l w,.l x]
def ZBW (a b:Int) (c d e f g h i j:LL) (t:Bool) (k:Int) (l m n o p q r s:LL):g57 a b c d e f g h i j t k l m n o p q r s =
 ((g51 a).bind fun u=>
 if u then
 (g58 b c d).bind fun v=>
 if v then
 (g58 k l m).bind fun w=>
 if w then
 (g59 e f g h i j).bind fun x=>
 if x then
 (g59 n o p q r s).bind fun y=>
 Xa (y)
 else
 Xa (Xc)
 else
 Xa (Xc)
 else
 Xa (Xc)
 else
 Xa (Xc)):=by kernel_rfl
noncomputable def F60:Fn:=⟨29,[2],[(2,[(0,.c (.slice 2)),(3,.c (.int .i64))])],[],0,[],[],Tryz.f60,[.c (.slice 2)],[.c (.bool)],[(62,F62.S),(51,F51.S)]⟩
def ZLx:F60.S.Ok Tryz.prog 60:=F60.ok Tryz.func60 ⟨ZDk,⟨Zyw,trivial⟩⟩
noncomputable def g60 (a:LL):Option (Bool):=F60.S.g [.l a]
noncomputable def Zkm (k:Nat) (a:LL) (b:Int):Option (Bool):=F60.lp [0] 0 r0 k [.l a,.i b]
def Znc (k:Nat) (a:LL) (b:Int):Zkm (k+1) a b =
 (if P0 .lss b (Xh a:Int) then
 Zj a b [.int .i64,.int .i64] fun (c:Int×Int)=>
 (g62 c.1).bind fun d=>
 if (!d) then
 Xa (Xc)
 else
 Zj a b [.int .i64,.int .i64] fun (e:Int×Int)=>
 (g51 e.2).bind fun f=>
 if (!f) then
 Xa (Xc)
 else
 Zkm k a (P1 .add .i64 b 1)
 else
 Xa ((P0 .leq (Xh a:Int) 16))):=by kernel_rfl
def ZCE (a:LL):g60 a =
 (Zkm Zr a 0):=by kernel_rfl
noncomputable def F68:Fn:=⟨38,[4],[],[],0,[],[],Tryz.f68,[.agg hs6,.agg hs6],[.c (.bool)],[(127,ZrV.S)]⟩
def ZIY:F68.S.Ok Tryz.prog 68:=F68.ok Tryz.func68 ⟨Zn8,trivial⟩
noncomputable def g68 (a c d e f h j k m n o p q r s t u v w x:Int) (y:LL) (z A C D E G:Int) (H:Bool) (J K L M N O P Q R T U V W X Y Z aa ab ac ad:Int) (ae:LL) (af ag ah ai aj ak:Int) (al:Bool):Option (Bool):=F68.S.g [.i a,.i c,.i d,.i e,.i f,.i h,.i j,.i k,.i m,.i n,.i o,.i p,.i q,.i r,.i s,.i t,.i u,.i v,.i w,.i x,.l y,.i z,.i A,.i C,.i D,.i E,.i G,.b H,.i J,.i K,.i L,.i M,.i N,.i O,.i P,.i Q,.i R,.i T,.i U,.i V,.i W,.i X,.i Y,.i Z,.i aa,.i ab,.i ac,.i ad,.l ae,.i af,.i ag,.i ah,.i ai,.i aj,.i ak,.b al]
def Zzr (a b c d e f g h i j k l m n o p q r s t:Int) (u:LL) (v w x y z A:Int) (C:Bool) (D E G H J K L M N O P Q R T U V W X Y Z:Int) (S:LL) (ab ac ad ae af ag:Int) (ah:Bool):g68 a b c d e f g h i j k l m n o p q r s t u v w x y z A C D E G H J K L M N O P Q R T U V W X Y Z S ab ac ad ae af ag ah =
 (if ((P0 .eql a D)&&((P0 .eql b E)&&((P0 .eql c G)&&Xb))) then
 if ((P0 .eql d H)&&((P0 .eql e J)&&((P0 .eql f K)&&((P0 .eql g L)&&((P0 .eql h M)&&((P0 .eql i N)&&((P0 .eql j O)&&((P0 .eql k P)&&((P0 .eql l Q)&&((P0 .eql m R)&&((P0 .eql n T)&&((P0 .eql o U)&&Xb)))))))))))) then
 if P0 .eql p V then
 if P0 .eql q W then
 (ZqO r s t u v w x y z A C X Y Z S ab ac ad ae af ag ah).bind fun ai=>
 Xa (ai)
 else
 Xa (Xc)
 else
 Xa (Xc)
 else
 Xa (Xc)
 else
 Xa (Xc)):=by kernel_rfl
noncomputable def F70:Fn:=⟨27,[4],[(4,[(0,.c (.slice 11)),(1,.c (.slice 11)),(5,.c (.int .i64))])],[],0,[],[],Tryz.f70,[.c (.slice 11),.c (.slice 11)],[.c (.bool)],[(127,ZrV.S)]⟩
def ZJz:F70.S.Ok Tryz.prog 70:=F70.ok Tryz.func70 ⟨Zn8,trivial⟩
noncomputable def g70 (a b:LL):Option (Bool):=F70.S.g [.l a,.l b]
noncomputable def ZqL (k:Nat) (a b:LL) (c:Int):Option (Bool):=F70.lp [1,0] 0 r0 k [.l a,.l b,.i c]
def ZlJ (k:Nat) (d e:LL) (c:Int):ZqL (k+1) d e c =
 (if P0 .lss c (Xh d:Int) then
 Zj d c hs16 fun (a:Qt31)=>
 Zj e c hs16 fun (b:Qt31)=>
 (ZqO a.1 a.2.1 a.2.2.1 a.2.2.2.1 (d4 a).1 (d4 a).2.1 (d6 a).1 (d6 a).2.1 (d8 a).1 (d8 a).2.1 a.2.2.2.2.2.2.2.2.2.2 b.1 b.2.1 b.2.2.1 b.2.2.2.1 (d4 b).1 (d4 b).2.1 (d6 b).1 (d6 b).2.1 (d8 b).1 (d8 b).2.1 b.2.2.2.2.2.2.2.2.2.2).bind fun f=>
 if (!f) then
 Xa (Xc)
 else
 ZqL k d e (P1 .add .i64 c 1)
 else
 Xa (Xb)):=by kernel_rfl
def ZBq (a b:LL):g70 a b =
 (if P0 .neq (Xh a:Int) (Xh b:Int) then
 Xa (Xc)
 else
 ZqL Zr a b 0):=by kernel_rfl
noncomputable def F71:Fn:=⟨26,[4],[(4,[(0,.c (.slice 1)),(1,.c (.slice 1)),(5,.c (.int .i64))])],[],0,[],[],Tryz.f71,[.c (.slice 1),.c (.slice 1)],[.c (.bool)],[]⟩
def ZJa:F71.S.Ok Tryz.prog 71:=F71.ok Tryz.func71
noncomputable def g71 (a b:LL):Option (Bool):=F71.S.g [.l a,.l b]
noncomputable def Zo6 (k:Nat) (a b:LL) (c:Int):Option (Bool):=F71.lp [1,0] 0 r0 k [.l a,.l b,.i c]
def Znv (k:Nat) (b c:LL) (a:Int):Zo6 (k+1) b c a =
 (if P0 .lss a (Xh b:Int) then
 Zj b a [.int .i64] fun (d:Int)=>
 Zj c a [.int .i64] fun (e:Int)=>
 if P0 .neq d e then
 Xa (Xc)
 else
 Zo6 k b c (P1 .add .i64 a 1)
 else
 Xa (Xb)):=by kernel_rfl
def ZBH (a b:LL):g71 a b =
 (if P0 .neq (Xh a:Int) (Xh b:Int) then
 Xa (Xc)
 else
 Zo6 Zr a b 0):=by kernel_rfl
noncomputable def F72:Fn:=⟨26,[4],[(4,[(0,.c (.slice 2)),(1,.c (.slice 2)),(5,.c (.int .i64))])],[],0,[],[],Tryz.f72,[.c (.slice 2),.c (.slice 2)],[.c (.bool)],[]⟩
def ZKb:F72.S.Ok Tryz.prog 72:=F72.ok Tryz.func72
noncomputable def g72 (a b:LL):Option (Bool):=F72.S.g [.l a,.l b]
noncomputable def Zpn (k:Nat) (a b:LL) (c:Int):Option (Bool):=F72.lp [1,0] 0 r0 k [.l a,.l b,.i c]
def ZlG (k:Nat) (b c:LL) (a:Int):Zpn (k+1) b c a =
 (if P0 .lss a (Xh b:Int) then
 Zj b a [.int .i64,.int .i64] fun (d:Int×Int)=>
 Zj c a [.int .i64,.int .i64] fun (e:Int×Int)=>
 if (!((P0 .eql d.1 e.1)&&((P0 .eql d.2 e.2)&&Xb))) then
 Xa (Xc)
 else
 Zpn k b c (P1 .add .i64 a 1)
 else
 Xa (Xb)):=by kernel_rfl
def ZBN (a b:LL):g72 a b =
 (if P0 .neq (Xh a:Int) (Xh b:Int) then
 Xa (Xc)
 else
 Zpn Zr a b 0):=by kernel_rfl
noncomputable def F73:Fn:=⟨24,[4],[],[],0,[],[],Tryz.f73,[.agg [.int .i64,.slice 1,.slice 1],.agg [.int .i64,.slice 1,.slice 1]],[.c (.bool)],[(71,F71.S)]⟩
def ZJb:F73.S.Ok Tryz.prog 73:=F73.ok Tryz.func73 ⟨ZJa,trivial⟩
noncomputable def g73 (a:Int) (b c:LL) (d:Int) (e f:LL):Option (Bool):=F73.S.g [.i a,.l b,.l c,.i d,.l e,.l f]
def ZAf (a:Int) (b c:LL) (d:Int) (e f:LL):g73 a b c d e f =
 (if P0 .eql a d then
 (g71 b e).bind fun g=>
 if g then
 (g71 c f).bind fun h=>
 Xa (h)
 else
 Xa (Xc)
 else
 Xa (Xc)):=by kernel_rfl
noncomputable def ZyS:Fn:=⟨55,[4],[(4,[(0,.c (.slice 15)),(1,.c (.slice 15)),(5,.c (.int .i64))])],[],0,[],[],Tryz.f151,[.c (.slice 15),.c (.slice 15)],[.c (.bool)],[(127,ZrV.S)]⟩
def ZGn:ZyS.S.Ok Tryz.prog 151:=ZyS.ok Tryz.func151 ⟨Zn8,trivial⟩
noncomputable def ZFb (a b:LL):Option (Bool):=ZyS.S.g [.l a,.l b]
noncomputable def ZiS (k:Nat) (a b:LL) (c:Int):Option (Bool):=ZyS.lp [1,0] 0 r0 k [.l a,.l b,.i c]
def ZhZ (k:Nat) (d e:LL) (c:Int):ZiS (k+1) d e c =
 (if P0 .lss c (Xh d:Int) then
 Zj d c hs11 fun (h:Qt21)=>
 Zj e c hs11 fun (i:Qt21)=>
 if P0 .neq (df h).2.1 (df i).2.1 then
 Xa (Xc)
 else
 Zj d c hs11 fun (f:Qt21)=>
 Zj e c hs11 fun (g:Qt21)=>
 if (!((P0 .eql (dg f).1 (dg g).1)&&((P0 .eql (dg f).2.1 (dg g).2.1)&&((P0 .eql (dh f) (dh g))&&Xb)))) then
 Xa (Xc)
 else
 Zj d c hs11 fun (a:Qt21)=>
 Zj e c hs11 fun (b:Qt21)=>
 (ZqO a.1 a.2.1 a.2.2.1 a.2.2.2.1 (d4 a).1 (d4 a).2.1 (d6 a).1 (d6 a).2.1 (d8 a).1 (d8 a).2.1 (df a).1 b.1 b.2.1 b.2.2.1 b.2.2.2.1 (d4 b).1 (d4 b).2.1 (d6 b).1 (d6 b).2.1 (d8 b).1 (d8 b).2.1 (df b).1).bind fun j=>
 if (!j) then
 Xa (Xc)
 else
 ZiS k d e (P1 .add .i64 c 1)
 else
 Xa (Xb)):=by kernel_rfl
def ZwU (a b:LL):ZFb a b =
 (if P0 .neq (Xh a:Int) (Xh b:Int) then
 Xa (Xc)
 else
 ZiS Zr a b 0):=by kernel_rfl
noncomputable def ZyN:Fn:=⟨27,[4],[(4,[(0,.c (.slice 28)),(1,.c (.slice 28)),(5,.c (.int .i64))])],[],0,[],[],Tryz.f152,[.c (.slice 28),.c (.slice 28)],[.c (.bool)],[(68,F68.S)]⟩
def ZET:ZyN.S.Ok Tryz.prog 152:=ZyN.ok Tryz.func152 ⟨ZIY,trivial⟩
noncomputable def ZGz (a b:LL):Option (Bool):=ZyN.S.g [.l a,.l b]
noncomputable def Zj4 (k:Nat) (a b:LL) (c:Int):Option (Bool):=ZyN.lp [1,0] 0 r0 k [.l a,.l b,.i c]
def Zit (k:Nat) (d e:LL) (c:Int):Zj4 (k+1) d e c =
 (if P0 .lss c (Xh d:Int) then
 Zj d c hs6 fun (a:Qt10)=>
 Zj e c hs6 fun (b:Qt10)=>
 (g68 a.1 a.2.1 a.2.2.1 a.2.2.2.1 (d4 a).1 (d4 a).2.1 (d6 a).1 (d6 a).2.1 (d8 a).1 (d8 a).2.1 (df a).1 (df a).2.1 (dg a).1 (dg a).2.1 (dh a).1 (dh a).2.1 (P2 a).1 (P2 a).2.1 (d2 (P2 a)).1 (d2 (P2 a)).2.1 (d4 (P2 a)).1 (d4 (P2 a)).2.1 (d6 (P2 a)).1 (d6 (P2 a)).2.1 (d8 (P2 a)).1 (d8 (P2 a)).2.1 (df (P2 a)).1 (df (P2 a)).2 b.1 b.2.1 b.2.2.1 b.2.2.2.1 (d4 b).1 (d4 b).2.1 (d6 b).1 (d6 b).2.1 (d8 b).1 (d8 b).2.1 (df b).1 (df b).2.1 (dg b).1 (dg b).2.1 (dh b).1 (dh b).2.1 (P2 b).1 (P2 b).2.1 (d2 (P2 b)).1 (d2 (P2 b)).2.1 (d4 (P2 b)).1 (d4 (P2 b)).2.1 (d6 (P2 b)).1 (d6 (P2 b)).2.1 (d8 (P2 b)).1 (d8 (P2 b)).2.1 (df (P2 b)).1 (df (P2 b)).2).bind fun f=>
 if (!f) then
 Xa (Xc)
 else
 Zj4 k d e (P1 .add .i64 c 1)
 else
 Xa (Xb)):=by kernel_rfl
def Zwx (a b:LL):ZGz a b =
 (if P0 .neq (Xh a:Int) (Xh b:Int) then
 Xa (Xc)
 else
 Zj4 Zr a b 0):=by kernel_rfl
noncomputable def ZBI:Fn:=⟨26,[4],[(4,[(0,.c (.slice 4)),(1,.c (.slice 4)),(5,.c (.int .i64))])],[],0,[],[],Tryz.f153,[.c (.slice 4),.c (.slice 4)],[.c (.bool)],[]⟩
def ZFa:ZBI.S.Ok Tryz.prog 153:=ZBI.ok Tryz.func153
noncomputable def ZFE (a b:LL):Option (Bool):=ZBI.S.g [.l a,.l b]
noncomputable def ZhT (k:Nat) (a b:LL) (c:Int):Option (Bool):=ZBI.lp [1,0] 0 r0 k [.l a,.l b,.i c]
def ZiO (k:Nat) (b e:LL) (a:Int):ZhT (k+1) b e a =
 (if P0 .lss a (Xh b:Int) then
 Zj b a [.int .i64,.int .i64,.int .i64,.int .i64] fun (c:Int×Int×Int×Int)=>
 Zj e a [.int .i64,.int .i64,.int .i64,.int .i64] fun (d:Int×Int×Int×Int)=>
 if (!((P0 .eql c.1 d.1)&&((P0 .eql c.2.1 d.2.1)&&((P0 .eql c.2.2.1 d.2.2.1)&&((P0 .eql c.2.2.2 d.2.2.2)&&Xb))))) then
 Xa (Xc)
 else
 ZhT k b e (P1 .add .i64 a 1)
 else
 Xa (Xb)):=by kernel_rfl
def Zxs (a b:LL):ZFE a b =
 (if P0 .neq (Xh a:Int) (Xh b:Int) then
 Xa (Xc)
 else
 ZhT Zr a b 0):=by kernel_rfl
noncomputable def ZyP:Fn:=⟨26,[4],[(4,[(0,.c (.slice 2)),(1,.c (.slice 2)),(5,.c (.int .i64))])],[],0,[],[],Tryz.f154,[.c (.slice 2),.c (.slice 2)],[.c (.bool)],[]⟩
def ZFI:ZyP.S.Ok Tryz.prog 154:=ZyP.ok Tryz.func154
noncomputable def ZF9 (a b:LL):Option (Bool):=ZyP.S.g [.l a,.l b]
noncomputable def Zj3 (k:Nat) (a b:LL) (c:Int):Option (Bool):=ZyP.lp [1,0] 0 r0 k [.l a,.l b,.i c]
def ZjV (k:Nat) (b c:LL) (a:Int):Zj3 (k+1) b c a =
 (if P0 .lss a (Xh b:Int) then
 Zj b a [.int .i64,.int .i64] fun (d:Int×Int)=>
 Zj c a [.int .i64,.int .i64] fun (e:Int×Int)=>
 if (!((P0 .eql d.1 e.1)&&((P0 .eql d.2 e.2)&&Xb))) then
 Xa (Xc)
 else
 Zj3 k b c (P1 .add .i64 a 1)
 else
 Xa (Xb)):=by kernel_rfl
def ZvE (a b:LL):ZF9 a b =
 (if P0 .neq (Xh a:Int) (Xh b:Int) then
 Xa (Xc)
 else
 Zj3 Zr a b 0):=by kernel_rfl
noncomputable def ZzJ:Fn:=⟨55,[4],[(4,[(0,.c (.slice 13)),(1,.c (.slice 13)),(5,.c (.int .i64))])],[],0,[],[],Tryz.f155,[.c (.slice 13),.c (.slice 13)],[.c (.bool)],[(127,ZrV.S)]⟩
def ZIm:ZzJ.S.Ok Tryz.prog 155:=ZzJ.ok Tryz.func155 ⟨Zn8,trivial⟩
noncomputable def ZGA (a b:LL):Option (Bool):=ZzJ.S.g [.l a,.l b]
noncomputable def ZjJ (k:Nat) (a b:LL) (c:Int):Option (Bool):=ZzJ.lp [1,0] 0 r0 k [.l a,.l b,.i c]
def Zjr (k:Nat) (d e:LL) (c:Int):ZjJ (k+1) d e c =
 (if P0 .lss c (Xh d:Int) then
 Zj d c hs12 fun (f:Qt25)=>
 Zj e c hs12 fun (g:Qt25)=>
 if P0 .neq f.1 g.1 then
 Xa (Xc)
 else
 Zj d c hs12 fun (h:Qt25)=>
 Zj e c hs12 fun (i:Qt25)=>
 if P0 .neq h.2.1 i.2.1 then
 Xa (Xc)
 else
 Zj d c hs12 fun (a:Qt25)=>
 Zj e c hs12 fun (b:Qt25)=>
 (ZqO a.2.2.1 a.2.2.2.1 (d4 a).1 (d4 a).2.1 (d6 a).1 (d6 a).2.1 (d8 a).1 (d8 a).2.1 (df a).1 (df a).2.1 (dg a) b.2.2.1 b.2.2.2.1 (d4 b).1 (d4 b).2.1 (d6 b).1 (d6 b).2.1 (d8 b).1 (d8 b).2.1 (df b).1 (df b).2.1 (dg b)).bind fun j=>
 if (!j) then
 Xa (Xc)
 else
 ZjJ k d e (P1 .add .i64 c 1)
 else
 Xa (Xb)):=by kernel_rfl
def Zwi (a b:LL):ZGA a b =
 (if P0 .neq (Xh a:Int) (Xh b:Int) then
 Xa (Xc)
 else
 ZjJ Zr a b 0):=by kernel_rfl
noncomputable def F74:Fn:=⟨45,[4],[],[],0,[],[],Tryz.f74,[.agg hs30,.agg hs30],[.c (.bool)],[(151,ZyS.S),(152,ZyN.S),(153,ZBI.S),(154,ZyP.S),(155,ZzJ.S),(69,F69.S)]⟩
def ZI6:F74.S.Ok Tryz.prog 74:=F74.ok Tryz.func74 ⟨ZGn,⟨ZET,⟨ZFa,⟨ZFI,⟨ZIm,⟨ZFY,trivial⟩⟩⟩⟩⟩⟩
noncomputable def g74 (a b c d e f h i j k m n:LL):Option (Bool):=F74.S.g [.l a,.l b,.l c,.l d,.l e,.l f,.l h,.l i,.l j,.l k,.l m,.l n]
def ZBU (a b c d e f g h i j k l:LL):g74 a b c d e f g h i j k l =
 ((ZFb a g).bind fun m=>
 if m then
 (ZGz b h).bind fun n=>
 if n then
 (ZFE c i).bind fun o=>
 if o then
 (ZF9 d j).bind fun p=>
 if p then
 (ZGA e k).bind fun q=>
 if q then
 (g69 f l).bind fun r=>
 Xa (r)
 else
 Xa (Xc)
 else
 Xa (Xc)
 else
 Xa (Xc)
 else
 Xa (Xc)
 else
 Xa (Xc)):=by kernel_rfl
noncomputable def F75:Fn:=⟨45,[4],[],[],0,[],[],Tryz.f75,[.agg hs7,.agg hs7],[.c (.bool)],[(73,F73.S),(74,F74.S)]⟩
def ZKJ:F75.S.Ok Tryz.prog 75:=F75.ok Tryz.func75 ⟨ZJb,⟨ZI6,trivial⟩⟩
noncomputable def g75 (a c:Int) (d e f h j k m n:LL) (o:Bool) (p:Int) (q r s t u v w x:LL) (y z:Int) (A C D E G H J K:LL) (L:Bool) (M:Int) (N O P Q R T U V:LL):Option (Bool):=F75.S.g [.i a,.i c,.l d,.l e,.l f,.l h,.l j,.l k,.l m,.l n,.b o,.i p,.l q,.l r,.l s,.l t,.l u,.l v,.l w,.l x,.i y,.i z,.l A,.l C,.l D,.l E,.l G,.l H,.l J,.l K,.b L,.i M,.l N,.l O,.l P,.l Q,.l R,.l T,.l U,.l V]
def ZCp (a b:Int) (c d e f g h i j:LL) (k:Bool) (l:Int) (m n o p q r s t:LL) (u v:Int) (w x y z A C D E:LL) (G:Bool) (H:Int) (J K L M N O P Q:LL):g75 a b c d e f g h i j k l m n o p q r s t u v w x y z A C D E G H J K L M N O P Q =
 (if P0 .eql a u then
 (g73 b c d v w x).bind fun R=>
 if R then
 (g74 e f g h i j y z A C D E).bind fun T=>
 if T then
 if (k == G) then
 (g73 l m n H J K).bind fun U=>
 if U then
 (g74 o p q r s t L M N O P Q).bind fun V=>
 Xa (V)
 else
 Xa (Xc)
 else
 Xa (Xc)
 else
 Xa (Xc)
 else
 Xa (Xc)
 else
 Xa (Xc)):=by kernel_rfl
noncomputable def F19:Fn:=⟨134,[4],[],[],0,[],[],Tryz.f19,[.agg hs0,.agg hs0],[.c (.bool)],[(68,F68.S),(69,F69.S),(70,F70.S),(71,F71.S),(72,F72.S),(73,F73.S),(74,F74.S),(75,F75.S)]⟩
def ZF7:F19.S.Ok Tryz.prog 19:=F19.ok Tryz.func19 ⟨ZIY,⟨ZFY,⟨ZJz,⟨ZJa,⟨ZKb,⟨ZJb,⟨ZI6,⟨ZKJ,trivial⟩⟩⟩⟩⟩⟩⟩⟩
noncomputable def g19 (a c d e f h j k m n o:Int) (p:Bool) (q r s t u v w x y z A C D E G H J K L M:Int) (N:LL) (O P Q R T U:Int) (V:Bool) (W X Y Z:LL) (aa ab:Int) (ac ad ae af ag ah ai aj:LL) (ak al:Int) (am an ao ap aq ar aZ au:LL) (av:Bool) (aw:Int) (ax ay az a0 a1 a2 a3 a4:LL) (a5 a6 a7 a8 a9 ba bb bc bd be bf:Int) (bg:Bool) (bh bi bj bk bl bm bn bo bp bq br bs bt bu bv bw bx bz b0 b1:Int) (b2:LL) (b3 b4 b5 b6 b7 b8:Int) (b9:Bool) (ca cb cc cd:LL) (ce cf:Int) (cg ch ci cj ck cl cm cn:LL) (co cp:Int) (cq cr cs ct cu cv cw cx:LL) (cy:Bool) (cz:Int) (c0 c1 c2 c3 c4 c5 c6 c7:LL):Option (Bool):=F19.S.g [.i a,.i c,.i d,.i e,.i f,.i h,.i j,.i k,.i m,.i n,.i o,.b p,.i q,.i r,.i s,.i t,.i u,.i v,.i w,.i x,.i y,.i z,.i A,.i C,.i D,.i E,.i G,.i H,.i J,.i K,.i L,.i M,.l N,.i O,.i P,.i Q,.i R,.i T,.i U,.b V,.l W,.l X,.l Y,.l Z,.i aa,.i ab,.l ac,.l ad,.l ae,.l af,.l ag,.l ah,.l ai,.l aj,.i ak,.i al,.l am,.l an,.l ao,.l ap,.l aq,.l ar,.l aZ,.l au,.b av,.i aw,.l ax,.l ay,.l az,.l a0,.l a1,.l a2,.l a3,.l a4,.i a5,.i a6,.i a7,.i a8,.i a9,.i ba,.i bb,.i bc,.i bd,.i be,.i bf,.b bg,.i bh,.i bi,.i bj,.i bk,.i bl,.i bm,.i bn,.i bo,.i bp,.i bq,.i br,.i bs,.i bt,.i bu,.i bv,.i bw,.i bx,.i bz,.i b0,.i b1,.l b2,.i b3,.i b4,.i b5,.i b6,.i b7,.i b8,.b b9,.l ca,.l cb,.l cc,.l cd,.i ce,.i cf,.l cg,.l ch,.l ci,.l cj,.l ck,.l cl,.l cm,.l cn,.i co,.i cp,.l cq,.l cr,.l cs,.l ct,.l cu,.l cv,.l cw,.l cx,.b cy,.i cz,.l c0,.l c1,.l c2,.l c3,.l c4,.l c5,.l c6,.l c7]
def Zzi (a b c d e f g h i j k:Int) (l:Bool) (m n o p q r s t u v w x y z A C D E G H:Int) (J:LL) (K L M N O P:Int) (Q:Bool) (R T U V:LL) (W X:Int) (Y Z S ab ac ad ae af:LL) (ag ah:Int) (ai aj ak al am an ao ap:LL) (aq:Bool) (ar:Int) (aZ au av aw ax ay az a0:LL) (a1 a2 a3 a4 a5 a6 a7 a8 a9 ba bb:Int) (bc:Bool) (bd be bf bg bh bi bj bk bl bm bn bo bp bq br bs bt bu bv bw:Int) (bx:LL) (bz b0 b1 b2 b3 b4:Int) (b5:Bool) (b6 b7 b8 b9:LL) (ca cb:Int) (cc cd ce cf cg ch ci cj:LL) (ck cl:Int) (cm cn co cp cq cr cs ct:LL) (cu:Bool) (cv:Int) (cw cx cy cz c0 c1 c2 c3:LL):g19 a b c d e f g h i j k l m n o p q r s t u v w x y z A C D E G H J K L M N O P Q R T U V W X Y Z S ab ac ad ae af ag ah ai aj ak al am an ao ap aq ar aZ au av aw ax ay az a0 a1 a2 a3 a4 a5 a6 a7 a8 a9 ba bb bc bd be bf bg bh bi bj bk bl bm bn bo bp bq br bs bt bu bv bw bx bz b0 b1 b2 b3 b4 b5 b6 b7 b8 b9 ca cb cc cd ce cf cg ch ci cj ck cl cm cn co cp cq cr cs ct cu cv cw cx cy cz c0 c1 c2 c3 =
 (if P0 .neq a a1 then
 Xa (Xc)
 else
 if P0 .neq b a2 then
 Xa (Xc)
 else
 if P0 .neq c a3 then
 Xa (Xc)
 else
 if P0 .neq d a4 then
 Xa (Xc)
 else
 if P0 .neq e a5 then
 Xa (Xc)
 else
 if P0 .neq f a6 then
 Xa (Xc)
 else
 if P0 .neq g a7 then
 Xa (Xc)
 else
 if (!((P0 .eql h a8)&&((P0 .eql i a9)&&((P0 .eql j ba)&&Xb)))) then
 Xa (Xc)
 else
 if P0 .neq k bb then
 Xa (Xc)
 else
 if (!(l == bc)) then
 Xa (Xc)
 else
 if P0 .neq W ca then
 Xa (Xc)
 else
 (g68 m n o p q r s t u v w x y z A C D E G H J K L M N O P Q bd be bf bg bh bi bj bk bl bm bn bo bp bq br bs bt bu bv bw bx bz b0 b1 b2 b3 b4 b5).bind fun c4=>
 if c4 then
 (g69 R b6).bind fun c5=>
 if c5 then
 (g70 T b7).bind fun c6=>
 if c6 then
 (g71 U b8).bind fun c7=>
 if c7 then
 (g72 V b9).bind fun c8=>
 if c8 then
 (g73 X Y Z cb cc cd).bind fun c9=>
 if c9 then
 (g74 S ab ac ad ae af ce cf cg ch ci cj).bind fun da=>
 if da then
 (g75 ag ah ai aj ak al am an ao ap aq ar aZ au av aw ax ay az a0 ck cl cm cn co cp cq cr cs ct cu cv cw cx cy cz c0 c1 c2 c3).bind fun db=>
 Xa (db)
 else
 Xa (Xc)
 else
 Xa (Xc)
 else
 Xa (Xc)
 else
 Xa (Xc)
 else
 Xa (Xc)
 else
 Xa (Xc)
 else
 Xa (Xc)):=by kernel_rfl
noncomputable def F16:Fn:=⟨295,[2],[(60,[(1,.box hs0),(3,.box hs0),(4,.c (.bool)),(5,.c (.int .i64))])],[],0,[],[],Tryz.f16,[.agg hs0],[.c (.bool)],[(50,F50.S),(51,F51.S),(52,F52.S),(61,F61.S),(62,F62.S),(19,F19.S),(53,F53.S),(54,F54.S),(55,F55.S),(56,F56.S),(57,F57.S),(58,F58.S),(59,F59.S),(60,F60.S)]⟩
def ZKh:F16.S.Ok Tryz.prog 16:=F16.ok Tryz.func16 ⟨ZIR,⟨Zyw,⟨ZI5,⟨ZxY,⟨ZDk,⟨ZF7,⟨ZHn,⟨ZJm,⟨ZI2,⟨ZJH,⟨ZLp,⟨ZJr,⟨ZIq,⟨ZLx,trivial⟩⟩⟩⟩⟩⟩⟩⟩⟩⟩⟩⟩⟩⟩
noncomputable def g16 (a c d e f h j k m n o:Int) (p:Bool) (q r s t u v w x y z A C D E G H J K L M:Int) (N:LL) (O P Q R T U:Int) (V:Bool) (W X Y Z:LL) (aa ab:Int) (ac ad ae af ag ah ai aj:LL) (ak al:Int) (am an ao ap aq ar aZ au:LL) (av:Bool) (aw:Int) (ax ay az a0 a1 a2 a3 a4:LL):Option (Bool):=F16.S.g [.i a,.i c,.i d,.i e,.i f,.i h,.i j,.i k,.i m,.i n,.i o,.b p,.i q,.i r,.i s,.i t,.i u,.i v,.i w,.i x,.i y,.i z,.i A,.i C,.i D,.i E,.i G,.i H,.i J,.i K,.i L,.i M,.l N,.i O,.i P,.i Q,.i R,.i T,.i U,.b V,.l W,.l X,.l Y,.l Z,.i aa,.i ab,.l ac,.l ad,.l ae,.l af,.l ag,.l ah,.l ai,.l aj,.i ak,.i al,.l am,.l an,.l ao,.l ap,.l aq,.l ar,.l aZ,.l au,.b av,.i aw,.l ax,.l ay,.l az,.l a0,.l a1,.l a2,.l a3,.l a4]
noncomputable def Y5 (k:Nat) (a c d e f g h j m n o:Int) (p:Bool) (q r s t u v w x y z A C D E G H J K L M:Int) (N:LL) (O P Q R T U:Int) (V:Bool) (W X Y Z:LL) (S ab:Int) (ac ad ae af ag ah ai aj:LL) (ak al:Int) (am an ao ap aq ar aZ au:LL) (av:Bool) (aw:Int) (ax ay az a0 a1 a2 a3 a4:LL) (a5 a6 a7 a8 a9 ba bb bc bd be bf:Int) (bg:Bool) (bh bi bj bk bl bm bn bo bp bq br bs bt bu bv bw bx bz b0 b1:Int) (b2:LL) (b3 b4 b5 b6 b7 b8:Int) (b9:Bool) (ca cb cc cd:LL) (ce cf:Int) (cg ch ci cj ck cl cm cn:LL) (co cp:Int) (cq cr cs ct cu cv cw cx:LL) (cy:Bool) (cz:Int) (c0 c1 c2 c3 c4 c5 c6 c7:LL) (c8:Bool) (c9:Int):Option (Bool):=F16.lp [1,1,0,1,0,1,0,1,0,2] 0 r0 k [.i a,.i c,.i d,.i e,.i f,.i g,.i h,.i j,.i m,.i n,.i o,.b p,.i q,.i r,.i s,.i t,.i u,.i v,.i w,.i x,.i y,.i z,.i A,.i C,.i D,.i E,.i G,.i H,.i J,.i K,.i L,.i M,.l N,.i O,.i P,.i Q,.i R,.i T,.i U,.b V,.l W,.l X,.l Y,.l Z,.i S,.i ab,.l ac,.l ad,.l ae,.l af,.l ag,.l ah,.l ai,.l aj,.i ak,.i al,.l am,.l an,.l ao,.l ap,.l aq,.l ar,.l aZ,.l au,.b av,.i aw,.l ax,.l ay,.l az,.l a0,.l a1,.l a2,.l a3,.l a4,.i a5,.i a6,.i a7,.i a8,.i a9,.i ba,.i bb,.i bc,.i bd,.i be,.i bf,.b bg,.i bh,.i bi,.i bj,.i bk,.i bl,.i bm,.i bn,.i bo,.i bp,.i bq,.i br,.i bs,.i bt,.i bu,.i bv,.i bw,.i bx,.i bz,.i b0,.i b1,.l b2,.i b3,.i b4,.i b5,.i b6,.i b7,.i b8,.b b9,.l ca,.l cb,.l cc,.l cd,.i ce,.i cf,.l cg,.l ch,.l ci,.l cj,.l ck,.l cl,.l cm,.l cn,.i co,.i cp,.l cq,.l cr,.l cs,.l ct,.l cu,.l cv,.l cw,.l cx,.b cy,.i cz,.l c0,.l c1,.l c2,.l c3,.l c4,.l c5,.l c6,.l c7,.b c8,.i c9]
def ZmC (k:Nat) (d e f g h b i j l m n:Int) (o:Bool) (p q r s t u v w x y z A C D E G H J K L:Int) (M:LL) (N O P Q R T:Int) (U:Bool) (V c W X:LL) (Y Z:Int) (S ab ac ad ae af ag ah:LL) (ai aj:Int) (ak al am an ao ap aq ar:LL) (aZ:Bool) (au:Int) (av aw ax ay az a0 a1 a2:LL) (a3 a4 a5 a6 a7 a8 a9 ba bb bc bd:Int) (be:Bool) (bf bg bh bi bj bk bl bm bn bo bp bq br bs bt bu bv bw bx bz:Int) (b0:LL) (b1 b2 b3 b4 b5 b6:Int) (b7:Bool) (b8 b9 ca cb:LL) (cc cd:Int) (ce cf cg ch ci cj ck cl:LL) (cm cn:Int) (co cp cq cr cs ct cu cv:LL) (cw:Bool) (cx:Int) (cy cz c0 c1 c2 c3 c4 c5:LL) (c6:Bool) (c7:Int):Y5 (k+1) d e f g h b i j l m n o p q r s t u v w x y z A C D E G H J K L M N O P Q R T U V c W X Y Z S ab ac ad ae af ag ah ai aj ak al am an ao ap aq ar aZ au av aw ax ay az a0 a1 a2 a3 a4 a5 a6 a7 a8 a9 ba bb bc bd be bf bg bh bi bj bk bl bm bn bo bp bq br bs bt bu bv bw bx bz b0 b1 b2 b3 b4 b5 b6 b7 b8 b9 ca cb cc cd ce cf cg ch ci cj ck cl cm cn co cp cq cr cs ct cu cv cw cx cy cz c0 c1 c2 c3 c4 c5 c6 c7 =
 (if P0 .lss c7 (Xh c:Int) then
 if c6 then
 Zj c c7 hs16 fun (a:Qt31)=>
 (g61 a.1 a.2.1 a.2.2.1 a.2.2.2.1 (d4 a).1 (d4 a).2.1 (d6 a).1 (d6 a).2.1 (d8 a).1 (d8 a).2.1 a.2.2.2.2.2.2.2.2.2.2).bind fun c9=>
 Y5 k d e f g h b i j l m n o p q r s t u v w x y z A C D E G H J K L M N O P Q R T U V c W X Y Z S ab ac ad ae af ag ah ai aj ak al am an ao ap aq ar aZ au av aw ax ay az a0 a1 a2 a3 a4 a5 a6 a7 a8 a9 ba bb bc bd be bf bg bh bi bj bk bl bm bn bo bp bq br bs bt bu bv bw bx bz b0 b1 b2 b3 b4 b5 b6 b7 b8 b9 ca cb cc cd ce cf cg ch ci cj ck cl cm cn co cp cq cr cs ct cu cv cw cx cy cz c0 c1 c2 c3 c4 c5 c9 (P1 .add .i64 c7 1)
 else
 if c6 then
 (g62 b).bind fun a=>
 if a then
 (g19 d e f g h b i j l m n o p q r s t u v w x y z A C D E G H J K L M N O P Q R T U V c W X Y Z S ab ac ad ae af ag ah ai aj ak al am an ao ap aq ar aZ au av aw ax ay az a0 a1 a2 a3 a4 a5 a6 a7 a8 a9 ba bb bc bd be bf bg bh bi bj bk bl bm bn bo bp bq br bs bt bu bv bw bx bz b0 b1 b2 b3 b4 b5 b6 b7 b8 b9 ca cb cc cd ce cf cg ch ci cj ck cl cm cn co cp cq cr cs ct cu cv cw cx cy cz c0 c1 c2 c3 c4 c5).bind fun c8=>
 Xa (c8)
 else
 Xa (Xc)
 else
 Xa (Xc)
 else
 if c6 then
 (g62 b).bind fun a=>
 if a then
 (g19 d e f g h b i j l m n o p q r s t u v w x y z A C D E G H J K L M N O P Q R T U V c W X Y Z S ab ac ad ae af ag ah ai aj ak al am an ao ap aq ar aZ au av aw ax ay az a0 a1 a2 a3 a4 a5 a6 a7 a8 a9 ba bb bc bd be bf bg bh bi bj bk bl bm bn bo bp bq br bs bt bu bv bw bx bz b0 b1 b2 b3 b4 b5 b6 b7 b8 b9 ca cb cc cd ce cf cg ch ci cj ck cl cm cn co cp cq cr cs ct cu cv cw cx cy cz c0 c1 c2 c3 c4 c5).bind fun c8=>
 Xa (c8)
 else
 Xa (Xc)
 else
 Xa (Xc)):=by kernel_rfl
def YR (a b c d h i m e f g l:Int) (y:Bool) (Z N S ac ad ae af ag ah ai aj ak al am an ao ap aq ar aZ:Int) (au:LL) (av aw ax ay az a0:Int) (a1:Bool) (x k j z:LL) (n o:Int) (p q r s t u v w:LL) (A C:Int) (D E G H J K L M:LL) (O:Bool) (P:Int) (Q R T U V W X Y:LL):g16 a b c d h i m e f g l y Z N S ac ad ae af ag ah ai aj ak al am an ao ap aq ar aZ au av aw ax ay az a0 a1 x k j z n o p q r s t u v w A C D E G H J K L M O P Q R T U V W X Y =
 (if P0 .lss a 1 then
 Xa (Xc)
 else
 if P0 .gtr a 17 then
 Xa (Xc)
 else
 (g50 b).bind fun a4=>
 if (!a4) then
 Xa (Xc)
 else
 (g51 c).bind fun a5=>
 if (!a5) then
 Xa (Xc)
 else
 (g51 d).bind fun a6=>
 if (!a6) then
 Xa (Xc)
 else
 if P0 .eql a 1 then
 (g52 Z N S ac ad ae af ag ah ai aj ak al am an ao ap aq ar aZ au av aw ax ay az a0 a1).bind fun a2=>
 Y5 Zr a b c d h i m e f g l y Z N S ac ad ae af ag ah ai aj ak al am an ao ap aq ar aZ au av aw ax ay az a0 a1 x k j z n o p q r s t u v w A C D E G H J K L M O P Q R T U V W X Y a b c d 0 i 0 0 0 0 0 Xc Z N S ac ad ae af ag ah ai aj ak al am an ao ap aq ar aZ au av aw ax ay az a0 a1 E0 E0 E0 E0 0 0 E0 E0 E0 E0 E0 E0 E0 E0 0 0 E0 E0 E0 E0 E0 E0 E0 E0 Xc 0 E0 E0 E0 E0 E0 E0 E0 E0 a2 0
 else
 if P0 .eql a 2 then
 (g53 e f g).bind fun a2=>
 if a2 then
 (g54 l).bind fun a3=>
 if a3 then
 Y5 Zr a b c d h i m e f g l y Z N S ac ad ae af ag ah ai aj ak al am an ao ap aq ar aZ au av aw ax ay az a0 a1 x k j z n o p q r s t u v w A C D E G H J K L M O P Q R T U V W X Y a b c d 0 i 0 e f g l y 0 0 0 0 0 0 0 0 0 0 0 0 0 0 0 0 0 0 0 0 E0 0 0 0 0 0 0 Xc E0 k E0 E0 0 0 E0 E0 E0 E0 E0 E0 E0 E0 0 0 E0 E0 E0 E0 E0 E0 E0 E0 Xc 0 E0 E0 E0 E0 E0 E0 E0 E0 (P0 .leq (Xh k:Int) 8) 0
 else
 Y5 Zr a b c d h i m e f g l y Z N S ac ad ae af ag ah ai aj ak al am an ao ap aq ar aZ au av aw ax ay az a0 a1 x k j z n o p q r s t u v w A C D E G H J K L M O P Q R T U V W X Y a b c d 0 i 0 e f g l y 0 0 0 0 0 0 0 0 0 0 0 0 0 0 0 0 0 0 0 0 E0 0 0 0 0 0 0 Xc E0 k E0 E0 0 0 E0 E0 E0 E0 E0 E0 E0 E0 0 0 E0 E0 E0 E0 E0 E0 E0 E0 Xc 0 E0 E0 E0 E0 E0 E0 E0 E0 Xc 0
 else
 Y5 Zr a b c d h i m e f g l y Z N S ac ad ae af ag ah ai aj ak al am an ao ap aq ar aZ au av aw ax ay az a0 a1 x k j z n o p q r s t u v w A C D E G H J K L M O P Q R T U V W X Y a b c d 0 i 0 e f g l y 0 0 0 0 0 0 0 0 0 0 0 0 0 0 0 0 0 0 0 0 E0 0 0 0 0 0 0 Xc E0 k E0 E0 0 0 E0 E0 E0 E0 E0 E0 E0 E0 0 0 E0 E0 E0 E0 E0 E0 E0 E0 Xc 0 E0 E0 E0 E0 E0 E0 E0 E0 Xc 0
 else
 if P0 .eql a 4 then
 (g53 e f g).bind fun a2=>
 if a2 then
 if P0 .geq m 0 then
 if P0 .lss m 64 then
 Y5 Zr a b c d h i m e f g l y Z N S ac ad ae af ag ah ai aj ak al am an ao ap aq ar aZ au av aw ax ay az a0 a1 x k j z n o p q r s t u v w A C D E G H J K L M O P Q R T U V W X Y a b c d 0 i m e f g 0 Xc 0 0 0 0 0 0 0 0 0 0 0 0 0 0 0 0 0 0 0 0 E0 0 0 0 0 0 0 Xc E0 k E0 E0 0 0 E0 E0 E0 E0 E0 E0 E0 E0 0 0 E0 E0 E0 E0 E0 E0 E0 E0 Xc 0 E0 E0 E0 E0 E0 E0 E0 E0 (P0 .eql (Xh k:Int) 1) 0
 else
 Y5 Zr a b c d h i m e f g l y Z N S ac ad ae af ag ah ai aj ak al am an ao ap aq ar aZ au av aw ax ay az a0 a1 x k j z n o p q r s t u v w A C D E G H J K L M O P Q R T U V W X Y a b c d 0 i m e f g 0 Xc 0 0 0 0 0 0 0 0 0 0 0 0 0 0 0 0 0 0 0 0 E0 0 0 0 0 0 0 Xc E0 k E0 E0 0 0 E0 E0 E0 E0 E0 E0 E0 E0 0 0 E0 E0 E0 E0 E0 E0 E0 E0 Xc 0 E0 E0 E0 E0 E0 E0 E0 E0 Xc 0
 else
 Y5 Zr a b c d h i m e f g l y Z N S ac ad ae af ag ah ai aj ak al am an ao ap aq ar aZ au av aw ax ay az a0 a1 x k j z n o p q r s t u v w A C D E G H J K L M O P Q R T U V W X Y a b c d 0 i m e f g 0 Xc 0 0 0 0 0 0 0 0 0 0 0 0 0 0 0 0 0 0 0 0 E0 0 0 0 0 0 0 Xc E0 k E0 E0 0 0 E0 E0 E0 E0 E0 E0 E0 E0 0 0 E0 E0 E0 E0 E0 E0 E0 E0 Xc 0 E0 E0 E0 E0 E0 E0 E0 E0 Xc 0
 else
 Y5 Zr a b c d h i m e f g l y Z N S ac ad ae af ag ah ai aj ak al am an ao ap aq ar aZ au av aw ax ay az a0 a1 x k j z n o p q r s t u v w A C D E G H J K L M O P Q R T U V W X Y a b c d 0 i m e f g 0 Xc 0 0 0 0 0 0 0 0 0 0 0 0 0 0 0 0 0 0 0 0 E0 0 0 0 0 0 0 Xc E0 k E0 E0 0 0 E0 E0 E0 E0 E0 E0 E0 E0 0 0 E0 E0 E0 E0 E0 E0 E0 E0 Xc 0 E0 E0 E0 E0 E0 E0 E0 E0 Xc 0
 else
 if P0 .eql a 5 then
 (g53 e f g).bind fun a2=>
 if a2 then
 (g54 l).bind fun a3=>
 Y5 Zr a b c d h i m e f g l y Z N S ac ad ae af ag ah ai aj ak al am an ao ap aq ar aZ au av aw ax ay az a0 a1 x k j z n o p q r s t u v w A C D E G H J K L M O P Q R T U V W X Y a b c d 0 i 0 e f g l Xc 0 0 0 0 0 0 0 0 0 0 0 0 0 0 0 0 0 0 0 0 E0 0 0 0 0 0 0 Xc E0 E0 E0 E0 0 0 E0 E0 E0 E0 E0 E0 E0 E0 0 0 E0 E0 E0 E0 E0 E0 E0 E0 Xc 0 E0 E0 E0 E0 E0 E0 E0 E0 a3 0
 else
 Y5 Zr a b c d h i m e f g l y Z N S ac ad ae af ag ah ai aj ak al am an ao ap aq ar aZ au av aw ax ay az a0 a1 x k j z n o p q r s t u v w A C D E G H J K L M O P Q R T U V W X Y a b c d 0 i 0 e f g l Xc 0 0 0 0 0 0 0 0 0 0 0 0 0 0 0 0 0 0 0 0 E0 0 0 0 0 0 0 Xc E0 E0 E0 E0 0 0 E0 E0 E0 E0 E0 E0 E0 E0 0 0 E0 E0 E0 E0 E0 E0 E0 E0 Xc 0 E0 E0 E0 E0 E0 E0 E0 E0 Xc 0
 else
 if P0 .eql a 6 then
 (g53 e f g).bind fun a2=>
 if a2 then
 (g55 x Xc).bind fun a3=>
 if a3 then
 Y5 Zr a b c d h i m e f g l y Z N S ac ad ae af ag ah ai aj ak al am an ao ap aq ar aZ au av aw ax ay az a0 a1 x k j z n o p q r s t u v w A C D E G H J K L M O P Q R T U V W X Y a b c d 0 i 0 e f g 0 Xc 0 0 0 0 0 0 0 0 0 0 0 0 0 0 0 0 0 0 0 0 E0 0 0 0 0 0 0 Xc x E0 E0 E0 0 0 E0 E0 E0 E0 E0 E0 E0 E0 0 0 E0 E0 E0 E0 E0 E0 E0 E0 Xc 0 E0 E0 E0 E0 E0 E0 E0 E0 (P0 .leq (Xh x:Int) 64) 0
 else
 Y5 Zr a b c d h i m e f g l y Z N S ac ad ae af ag ah ai aj ak al am an ao ap aq ar aZ au av aw ax ay az a0 a1 x k j z n o p q r s t u v w A C D E G H J K L M O P Q R T U V W X Y a b c d 0 i 0 e f g 0 Xc 0 0 0 0 0 0 0 0 0 0 0 0 0 0 0 0 0 0 0 0 E0 0 0 0 0 0 0 Xc x E0 E0 E0 0 0 E0 E0 E0 E0 E0 E0 E0 E0 0 0 E0 E0 E0 E0 E0 E0 E0 E0 Xc 0 E0 E0 E0 E0 E0 E0 E0 E0 Xc 0
 else
 Y5 Zr a b c d h i m e f g l y Z N S ac ad ae af ag ah ai aj ak al am an ao ap aq ar aZ au av aw ax ay az a0 a1 x k j z n o p q r s t u v w A C D E G H J K L M O P Q R T U V W X Y a b c d 0 i 0 e f g 0 Xc 0 0 0 0 0 0 0 0 0 0 0 0 0 0 0 0 0 0 0 0 E0 0 0 0 0 0 0 Xc x E0 E0 E0 0 0 E0 E0 E0 E0 E0 E0 E0 E0 0 0 E0 E0 E0 E0 E0 E0 E0 E0 Xc 0 E0 E0 E0 E0 E0 E0 E0 E0 Xc 0
 else
 if P0 .eql a 12 then
 (g50 h).bind fun a2=>
 if a2 then
 (g56 j).bind fun a3=>
 Y5 Zr a b c d h i m e f g l y Z N S ac ad ae af ag ah ai aj ak al am an ao ap aq ar aZ au av aw ax ay az a0 a1 x k j z n o p q r s t u v w A C D E G H J K L M O P Q R T U V W X Y a b c d h 0 0 0 0 0 0 Xc 0 0 0 0 0 0 0 0 0 0 0 0 0 0 0 0 0 0 0 0 E0 0 0 0 0 0 0 Xc E0 E0 j E0 0 0 E0 E0 E0 E0 E0 E0 E0 E0 0 0 E0 E0 E0 E0 E0 E0 E0 E0 Xc 0 E0 E0 E0 E0 E0 E0 E0 E0 a3 0
 else
 Y5 Zr a b c d h i m e f g l y Z N S ac ad ae af ag ah ai aj ak al am an ao ap aq ar aZ au av aw ax ay az a0 a1 x k j z n o p q r s t u v w A C D E G H J K L M O P Q R T U V W X Y a b c d h 0 0 0 0 0 0 Xc 0 0 0 0 0 0 0 0 0 0 0 0 0 0 0 0 0 0 0 0 E0 0 0 0 0 0 0 Xc E0 E0 j E0 0 0 E0 E0 E0 E0 E0 E0 E0 E0 0 0 E0 E0 E0 E0 E0 E0 E0 E0 Xc 0 E0 E0 E0 E0 E0 E0 E0 E0 Xc 0
 else
 if P0 .eql a 13 then
 (g50 h).bind fun a2=>
 if a2 then
 (g57 A C D E G H J K L M O P Q R T U V W X Y).bind fun a3=>
 Y5 Zr a b c d h i m e f g l y Z N S ac ad ae af ag ah ai aj ak al am an ao ap aq ar aZ au av aw ax ay az a0 a1 x k j z n o p q r s t u v w A C D E G H J K L M O P Q R T U V W X Y a b c d h 0 0 0 0 0 0 Xc 0 0 0 0 0 0 0 0 0 0 0 0 0 0 0 0 0 0 0 0 E0 0 0 0 0 0 0 Xc E0 E0 E0 E0 0 0 E0 E0 E0 E0 E0 E0 E0 E0 A C D E G H J K L M O P Q R T U V W X Y a3 0
 else
 Y5 Zr a b c d h i m e f g l y Z N S ac ad ae af ag ah ai aj ak al am an ao ap aq ar aZ au av aw ax ay az a0 a1 x k j z n o p q r s t u v w A C D E G H J K L M O P Q R T U V W X Y a b c d h 0 0 0 0 0 0 Xc 0 0 0 0 0 0 0 0 0 0 0 0 0 0 0 0 0 0 0 0 E0 0 0 0 0 0 0 Xc E0 E0 E0 E0 0 0 E0 E0 E0 E0 E0 E0 E0 E0 A C D E G H J K L M O P Q R T U V W X Y Xc 0
 else
 if P0 .eql a 14 then
 (g50 h).bind fun a2=>
 if a2 then
 (g50 n).bind fun a3=>
 if a3 then
 (g56 j).bind fun a7=>
 if a7 then
 (g58 o p q).bind fun a8=>
 if a8 then
 (g59 r s t u v w).bind fun a9=>
 Y5 Zr a b c d h i m e f g l y Z N S ac ad ae af ag ah ai aj ak al am an ao ap aq ar aZ au av aw ax ay az a0 a1 x k j z n o p q r s t u v w A C D E G H J K L M O P Q R T U V W X Y a b c d h 0 0 0 0 0 0 Xc 0 0 0 0 0 0 0 0 0 0 0 0 0 0 0 0 0 0 0 0 E0 0 0 0 0 0 0 Xc E0 E0 j E0 n o p q r s t u v w 0 0 E0 E0 E0 E0 E0 E0 E0 E0 Xc 0 E0 E0 E0 E0 E0 E0 E0 E0 a9 0
 else
 Y5 Zr a b c d h i m e f g l y Z N S ac ad ae af ag ah ai aj ak al am an ao ap aq ar aZ au av aw ax ay az a0 a1 x k j z n o p q r s t u v w A C D E G H J K L M O P Q R T U V W X Y a b c d h 0 0 0 0 0 0 Xc 0 0 0 0 0 0 0 0 0 0 0 0 0 0 0 0 0 0 0 0 E0 0 0 0 0 0 0 Xc E0 E0 j E0 n o p q r s t u v w 0 0 E0 E0 E0 E0 E0 E0 E0 E0 Xc 0 E0 E0 E0 E0 E0 E0 E0 E0 Xc 0
 else
 Y5 Zr a b c d h i m e f g l y Z N S ac ad ae af ag ah ai aj ak al am an ao ap aq ar aZ au av aw ax ay az a0 a1 x k j z n o p q r s t u v w A C D E G H J K L M O P Q R T U V W X Y a b c d h 0 0 0 0 0 0 Xc 0 0 0 0 0 0 0 0 0 0 0 0 0 0 0 0 0 0 0 0 E0 0 0 0 0 0 0 Xc E0 E0 j E0 n o p q r s t u v w 0 0 E0 E0 E0 E0 E0 E0 E0 E0 Xc 0 E0 E0 E0 E0 E0 E0 E0 E0 Xc 0
 else
 Y5 Zr a b c d h i m e f g l y Z N S ac ad ae af ag ah ai aj ak al am an ao ap aq ar aZ au av aw ax ay az a0 a1 x k j z n o p q r s t u v w A C D E G H J K L M O P Q R T U V W X Y a b c d h 0 0 0 0 0 0 Xc 0 0 0 0 0 0 0 0 0 0 0 0 0 0 0 0 0 0 0 0 E0 0 0 0 0 0 0 Xc E0 E0 j E0 n o p q r s t u v w 0 0 E0 E0 E0 E0 E0 E0 E0 E0 Xc 0 E0 E0 E0 E0 E0 E0 E0 E0 Xc 0
 else
 Y5 Zr a b c d h i m e f g l y Z N S ac ad ae af ag ah ai aj ak al am an ao ap aq ar aZ au av aw ax ay az a0 a1 x k j z n o p q r s t u v w A C D E G H J K L M O P Q R T U V W X Y a b c d h 0 0 0 0 0 0 Xc 0 0 0 0 0 0 0 0 0 0 0 0 0 0 0 0 0 0 0 0 E0 0 0 0 0 0 0 Xc E0 E0 j E0 n o p q r s t u v w 0 0 E0 E0 E0 E0 E0 E0 E0 E0 Xc 0 E0 E0 E0 E0 E0 E0 E0 E0 Xc 0
 else
 if P0 .eql a 15 then
 (g50 h).bind fun a2=>
 Y5 Zr a b c d h i m e f g l y Z N S ac ad ae af ag ah ai aj ak al am an ao ap aq ar aZ au av aw ax ay az a0 a1 x k j z n o p q r s t u v w A C D E G H J K L M O P Q R T U V W X Y a b c d h 0 0 0 0 0 0 Xc 0 0 0 0 0 0 0 0 0 0 0 0 0 0 0 0 0 0 0 0 E0 0 0 0 0 0 0 Xc E0 E0 E0 E0 0 0 E0 E0 E0 E0 E0 E0 E0 E0 0 0 E0 E0 E0 E0 E0 E0 E0 E0 Xc 0 E0 E0 E0 E0 E0 E0 E0 E0 a2 0
 else
 if P0 .eql a 16 then
 (g50 h).bind fun a2=>
 Y5 Zr a b c d h i m e f g l y Z N S ac ad ae af ag ah ai aj ak al am an ao ap aq ar aZ au av aw ax ay az a0 a1 x k j z n o p q r s t u v w A C D E G H J K L M O P Q R T U V W X Y a b c d h 0 0 0 0 0 0 Xc 0 0 0 0 0 0 0 0 0 0 0 0 0 0 0 0 0 0 0 0 E0 0 0 0 0 0 0 Xc E0 E0 E0 E0 0 0 E0 E0 E0 E0 E0 E0 E0 E0 0 0 E0 E0 E0 E0 E0 E0 E0 E0 Xc 0 E0 E0 E0 E0 E0 E0 E0 E0 a2 0
 else
 if P0 .eql a 17 then
 (g56 j).bind fun a2=>
 if a2 then
 (g60 z).bind fun a3=>
 Y5 Zr a b c d h i m e f g l y Z N S ac ad ae af ag ah ai aj ak al am an ao ap aq ar aZ au av aw ax ay az a0 a1 x k j z n o p q r s t u v w A C D E G H J K L M O P Q R T U V W X Y a b c d 0 0 0 0 0 0 0 Xc 0 0 0 0 0 0 0 0 0 0 0 0 0 0 0 0 0 0 0 0 E0 0 0 0 0 0 0 Xc E0 E0 j z 0 0 E0 E0 E0 E0 E0 E0 E0 E0 0 0 E0 E0 E0 E0 E0 E0 E0 E0 Xc 0 E0 E0 E0 E0 E0 E0 E0 E0 a3 0
 else
 Y5 Zr a b c d h i m e f g l y Z N S ac ad ae af ag ah ai aj ak al am an ao ap aq ar aZ au av aw ax ay az a0 a1 x k j z n o p q r s t u v w A C D E G H J K L M O P Q R T U V W X Y a b c d 0 0 0 0 0 0 0 Xc 0 0 0 0 0 0 0 0 0 0 0 0 0 0 0 0 0 0 0 0 E0 0 0 0 0 0 0 Xc E0 E0 j z 0 0 E0 E0 E0 E0 E0 E0 E0 E0 0 0 E0 E0 E0 E0 E0 E0 E0 E0 Xc 0 E0 E0 E0 E0 E0 E0 E0 E0 Xc 0
 else
 (g53 e f g).bind fun a2=>
 Y5 Zr a b c d h i m e f g l y Z N S ac ad ae af ag ah ai aj ak al am an ao ap aq ar aZ au av aw ax ay az a0 a1 x k j z n o p q r s t u v w A C D E G H J K L M O P Q R T U V W X Y a b c d 0 i 0 e f g 0 Xc 0 0 0 0 0 0 0 0 0 0 0 0 0 0 0 0 0 0 0 0 E0 0 0 0 0 0 0 Xc E0 E0 E0 E0 0 0 E0 E0 E0 E0 E0 E0 E0 E0 0 0 E0 E0 E0 E0 E0 E0 E0 E0 Xc 0 E0 E0 E0 E0 E0 E0 E0 E0 a2 0):=by kernel_rfl
end Go.Proofs.YtjldbnbdcmfbmaaGreat
