import Derived.Test.YtnkmbgbpkgmbnaaGreatGQ
open Option renaming some→Xa
open Bool renaming false→Xb,true→Xc
open List renaming length→Xg
set_option linter.unusedVariables false
set_option linter.unusedSimpArgs false
set_option linter.defProp false
namespace Go.Proofs.YtnkmbgbpkgmbnaaGreat
open Go Go.AM
set_option maxRecDepth 100000
noncomputable def Zp3:Fn:=⟨31,[2],[],[],0,[],[],Tryz.f125,[.agg [.int .i64,.int .i64,.int .i64]],[.c (.bool)],[]⟩
def Znk:Zp3.S.Ok Tryz.prog 125:=Zp3.ok Tryz.func125
noncomputable def Ztc (a b c:Int):Option (Bool):=Zp3.S.g [.i a,.i b,.i c]
def Zrr (a b c:Int):Ztc a b c =
 (if P0 .geq a 0 then
 if P0 .lss a 32 then
 if P0 .geq b 1 then
 if P0 .leq b 1073741824 then
 if P0 .geq c 0 then
 Xa ((P0 .lss c 8))
 else
 Xa (Xb)
 else
 Xa (Xb)
 else
 Xa (Xb)
 else
 Xa (Xb)
 else
 Xa (Xb)):=by kernel_rfl
noncomputable def F80:Fn:=⟨10,[2],[],[],0,[],[],Tryz.f80,[.agg [.int .i64,.int .i64,.int .i64]],[.c (.bool)],[(125,Zp3.S)]⟩
def Zxe:F80.S.Ok Tryz.prog 80:=F80.ok Tryz.func80 ⟨Znk,trivial⟩
noncomputable def g80 (a b c:Int):Option (Bool):=F80.S.g [.i a,.i b,.i c]
def ZpQ (b c a:Int):g80 b c a =
 ((Ztc b c a).bind fun d=>
 if d then
 Xa ((P0 .eql a 0))
 else
 Xa (Xb)):=by kernel_rfl
noncomputable def F81:Fn:=⟨9,[2],[],[],0,[],[],Tryz.f81,[.c (.int .i64)],[.c (.bool)],[]⟩
def Zxx:F81.S.Ok Tryz.prog 81:=F81.ok Tryz.func81
noncomputable def g81 (a:Int):Option (Bool):=F81.S.g [.i a]
noncomputable def ZzX:Fn:=⟨26,[4],[(4,[(0,.c (.slice 3)),(1,.c (.slice 3)),(12,.c (.int .i64)),(13,.c (.int .i64))])],[],0,[],[],Tryz.f126,[.c (.slice 3),.c (.slice 3)],[.c (.bool)],[]⟩
def ZyO:ZzX.S.Ok Tryz.prog 126:=ZzX.ok Tryz.func126
noncomputable def F82:Fn:=⟨24,[4],[],[],0,[],[],Tryz.f82,[.agg hs24,.agg hs24],[.c (.bool)],[(126,ZzX.S)]⟩
def ZzN:F82.S.Ok Tryz.prog 82:=F82.ok Tryz.func82 ⟨ZyO,trivial⟩
noncomputable def g82 (a c d:Int) (e:LL) (f h j k m n:Int) (o:Bool) (p q r:Int) (s:LL) (t u v w x y:Int) (z:Bool):Option (Bool):=F82.S.g [.i a,.i c,.i d,.l e,.i f,.i h,.i j,.i k,.i m,.i n,.b o,.i p,.i q,.i r,.l s,.i t,.i u,.i v,.i w,.i x,.i y,.b z]
noncomputable def Zvc:Fn:=⟨38,[4],[],[],0,[],[],Tryz.f164,[.c (.int .i64),.c (.int .i64)],[.c (.bool)],[]⟩
def Zwr:Zvc.S.Ok Tryz.prog 164:=Zvc.ok Tryz.func164
noncomputable def ZwL (a b:Int):Option (Bool):=Zvc.S.g [.i a,.i b]
def ZsV (b a:Int):ZwL b a =
 (if P0 .eql b 1 then
 if P0 .geq a 6 then
 Xa ((P0 .leq a 40))
 else
 Xa (Xb)
 else
 if P0 .eql b 2 then
 if P0 .geq a 12 then
 Xa ((P0 .leq a 40))
 else
 Xa (Xb)
 else
 if P0 .eql b 3 then
 Xa ((P0 .eql a 12))
 else
 if P0 .eql b 4 then
 Xa ((P0 .eql a 6))
 else
 if P0 .eql b 5 then
 Xa ((P0 .eql a 10))
 else
 if P0 .eql b 6 then
 Xa ((P0 .eql a 16))
 else
 Xa (Xb)):=by kernel_rfl
noncomputable def Zu4:Fn:=⟨8,[2],[],[],0,[],[],Tryz.f166,[.agg hs31],[.agg [.int .i64,.int .i64]],[]⟩
def Ztp:Zu4.S.Ok Tryz.prog 166:=Zu4.ok Tryz.func166
noncomputable def ZsY (a c d e f h:Int) (j:Bool):Option (Int×Int):=Zu4.S.g [.i a,.i c,.i d,.i e,.i f,.i h,.b j]
def Zrg (c a b d e f:Int) (g:Bool):ZsY c a b d e f g =
 (Xa (a,b)):=by kernel_rfl
noncomputable def Zp7:Fn:=⟨32,[2],[],[],0,[],[],Tryz.f165,[.agg [.int .i64,.int .i64]],[.c (.bool)],[]⟩
def ZnJ:Zp7.S.Ok Tryz.prog 165:=Zp7.ok Tryz.func165
noncomputable def Zon (a b:Int):Option (Bool):=Zp7.S.g [.i a,.i b]
def Zsb (b a:Int):Zon b a =
 (if P0 .lss a 6 then
 Xa (Xb)
 else
 if P0 .gtr a 40 then
 Xa (Xb)
 else
 if P0 .lss b 0 then
 Xa (Xb)
 else
 Zl ((0:Int)≤a)<|
 Zl (((P1 .shl .i64 1 a):Int)≠0)<|
 if (P0 .eql (P1 .rem .i64 b (P1 .shl .i64 1 a)) 0) then
 Xa ((P0 .leq b (P1 .sub .i64 1099511627776 (P1 .shl .i64 1 a))))
 else
 Xa (Xb)):=by kernel_rfl
noncomputable def Ztu:Fn:=⟨22,[4],[],[],0,[],[],Tryz.f167,[.c (.int .i64),.c (.int .i64)],[.c (.bool)],[]⟩
def ZvH:Ztu.S.Ok Tryz.prog 167:=Ztu.ok Tryz.func167
noncomputable def Zxw (a b:Int):Option (Bool):=Ztu.S.g [.i a,.i b]
def Zr0 (b a:Int):Zxw b a =
 (if P0 .eql b 32 then
 if P0 .geq a 0 then
 Xa ((P0 .leq a 1))
 else
 Xa (Xb)
 else
 if P0 .eql b 39 then
 if P0 .geq a 0 then
 Xa ((P0 .leq a 2))
 else
 Xa (Xb)
 else
 Xa (Xb)):=by kernel_rfl
noncomputable def Zs9:Fn:=⟨55,[2],[],[],0,[],[],Tryz.f127,[.agg hs31],[.c (.bool)],[(164,Zvc.S),(166,Zu4.S),(165,Zp7.S),(167,Ztu.S)]⟩
def Zr8:Zs9.S.Ok Tryz.prog 127:=Zs9.ok Tryz.func127 ⟨Zwr,⟨Ztp,⟨ZnJ,⟨ZvH,trivial⟩⟩⟩⟩
noncomputable def ZuT (a c d e f h:Int) (j:Bool):Option (Bool):=Zs9.S.g [.i a,.i c,.i d,.i e,.i f,.i h,.b j]
def Zq5 (a g f b c d:Int) (e:Bool):ZuT a g f b c d e =
 ((ZwL a f).bind fun i=>
 if (!i) then
 Xa (Xb)
 else
 (ZsY a g f b c d e).bind fun h=>
 (Zon h.1 h.2).bind fun j=>
 if (!j) then
 Xa (Xb)
 else
 if P0 .lss b 0 then
 Xa (Xb)
 else
 if P0 .gtr b 7 then
 Xa (Xb)
 else
 if P0 .eql a 3 then
 (Zxw c d).bind fun k=>
 if (!k) then
 Xa (Xb)
 else
 if (!e) then
 Xa (Xc)
 else
 if P0 .eql a 1 then
 Xa (Xc)
 else
 Xa ((P0 .eql a 2))
 else
 if P0 .neq c 0 then
 Xa (Xb)
 else
 if P0 .neq d 0 then
 Xa (Xb)
 else
 if (!e) then
 Xa (Xc)
 else
 if P0 .eql a 1 then
 Xa (Xc)
 else
 Xa ((P0 .eql a 2))):=by kernel_rfl
noncomputable def Zvy:Fn:=⟨19,[4],[(2,[(0,.c (.slice 3)),(3,.box [.int .i64,.int .i64,.int .i64]),(7,.c (.int .i64)),(8,.c (.int .i64))])],[],0,[],[],Tryz.f168,[.c (.slice 3),.agg [.int .i64,.int .i64,.int .i64]],[.c (.int .i64)],[]⟩
def Zye:Zvy.S.Ok Tryz.prog 168:=Zvy.ok Tryz.func168
noncomputable def ZAr (a:LL) (b c d:Int):Option (Int):=Zvy.S.g [.l a,.i b,.i c,.i d]
noncomputable def ZgY (k:Nat) (a:LL) (b c d e f:Int):Option (Int):=Zvy.lp [0] 0 r0 k [.l a,.i b,.i c,.i d,.i e,.i f]
def ZgA (k:Nat) (b:LL) (c d e f a:Int):ZgY (k+1) b c d e f a =
 (if P0 .lss a f then
 Zn b a [.int .i64,.int .i64,.int .i64] fun (g:Int×Int×Int)=>
 if ((P0 .eql c g.1)&&((P0 .eql d g.2.1)&&((P0 .eql e g.2.2)&&Xc))) then
 Xa (a)
 else
 ZgY k b c d e f (P1 .add .i64 a 1)
 else
 Xa ((-1))):=by kernel_rfl
def ZrS (a:LL) (b c d:Int):ZAr a b c d =
 (ZgY ZG a b c d (Xg a:Int) 0):=by kernel_rfl
noncomputable def Zt4:Fn:=⟨9,[4],[],[],0,[],[],Tryz.f128,[.c (.slice 3),.agg [.int .i64,.int .i64,.int .i64]],[.c (.bool)],[(168,Zvy.S)]⟩
def ZvP:Zt4.S.Ok Tryz.prog 128:=Zt4.ok Tryz.func128 ⟨Zye,trivial⟩
noncomputable def Zxa (a:LL) (b c d:Int):Option (Bool):=Zt4.S.g [.l a,.i b,.i c,.i d]
def Zry (a:LL) (b c d:Int):Zxa a b c d =
 ((ZAr a b c d).bind fun e=>
 Xa ((P0 .geq e 0))):=by kernel_rfl
noncomputable def F83:Fn:=⟨47,[2],[(4,[(1,.box hs24),(22,.c (.slice 3)),(23,.c (.int .i64)),(24,.c (.int .i64))])],[],0,[],[],Tryz.f83,[.agg hs24],[.c (.bool)],[(125,Zp3.S),(127,Zs9.S),(128,Zt4.S)]⟩
def Zwv:F83.S.Ok Tryz.prog 83:=F83.ok Tryz.func83 ⟨Znk,⟨Zr8,⟨ZvP,trivial⟩⟩⟩
noncomputable def g83 (a c d:Int) (e:LL) (f h j k m n:Int) (o:Bool):Option (Bool):=F83.S.g [.i a,.i c,.i d,.l e,.i f,.i h,.i j,.i k,.i m,.i n,.b o]
noncomputable def ZoO (k:Nat) (a c d:Int) (e:LL) (f g h j m n:Int) (o:Bool) (p:LL) (q r:Int):Option (Bool):=F83.lp [0,1,0,1,1,0] 0 r0 k [.i a,.i c,.i d,.l e,.i f,.i g,.i h,.i j,.i m,.i n,.b o,.l p,.i q,.i r]
def ZiJ (k:Nat) (d e f:Int) (c:LL) (i j l m n o:Int) (p:Bool) (g:LL) (h b:Int):ZoO (k+1) d e f c i j l m n o p g h b =
 (if P0 .lss b h then
 Zn g b [.int .i64,.int .i64,.int .i64] fun (a:Int×Int×Int)=>
 (Ztc a.1 a.2.1 a.2.2).bind fun q=>
 if (!q) then
 Xa (Xb)
 else
 if ((P0 .eql a.1 d)&&((P0 .eql a.2.1 e)&&((P0 .eql a.2.2 f)&&Xc))) then
 Xa (Xb)
 else
 Zl ((0:Int)≤b)<|
 Zl ((b:Int)≤(Xg c:Int))<|
 (Zxa (List.take (Int.toNat b) c) a.1 a.2.1 a.2.2).bind fun r=>
 if r then
 Xa (Xb)
 else
 ZoO k d e f c i j l m n o p g h (P1 .add .i64 b 1)
 else
 Xa (Xc)):=by kernel_rfl
def Zut (b c d:Int) (a:LL) (e f g h i j:Int) (k:Bool):g83 b c d a e f g h i j k =
 ((Ztc b c d).bind fun l=>
 if (!l) then
 Xa (Xb)
 else
 (ZuT e f g h i j k).bind fun m=>
 if (!m) then
 Xa (Xb)
 else
 if P0 .gtr (Xg a:Int) 8 then
 Xa (Xb)
 else
 ZoO ZG b c d a e f g h i j k a (Xg a:Int) 0):=by kernel_rfl
noncomputable def F41:Fn:=⟨46,[2],[],[],0,[],[],Tryz.f41,[.agg hs9],[.c (.bool)],[(80,F80.S),(81,F81.S),(82,F82.S),(83,F83.S)]⟩
def Zzc:F41.S.Ok Tryz.prog 41:=F41.ok Tryz.func41 ⟨Zxe,⟨Zxx,⟨ZzN,⟨Zwv,trivial⟩⟩⟩⟩
noncomputable def g41 (a c d e f h j k m n o p q r s t u v w x:Int) (y:LL) (z A C D E G:Int) (H:Bool):Option (Bool):=F41.S.g [.i a,.i c,.i d,.i e,.i f,.i h,.i j,.i k,.i m,.i n,.i o,.i p,.i q,.i r,.i s,.i t,.i u,.i v,.i w,.i x,.l y,.i z,.i A,.i C,.i D,.i E,.i G,.b H]
def ZuE (o p q b s t u v w x y z A C D r n c d e:Int) (f:LL) (g h i j k l:Int) (m:Bool):g41 o p q b s t u v w x y z A C D r n c d e f g h i j k l m =
 ((g80 o p q).bind fun E=>
 if (!E) then
 Xa (Xb)
 else
 if P0 .lss b 1 then
 Xa (Xb)
 else
 if P0 .gtr b 6 then
 Xa (Xb)
 else
 (g81 r).bind fun G=>
 if (!G) then
 Xa (Xb)
 else
 if P0 .neq n 32 then
 if P0 .neq n 39 then
 Xa (Xb)
 else
 if P0 .eql b 1 then
 (g82 c d e f g h i j k l m 0 0 0 E0 0 0 0 0 0 0 Xb).bind fun a=>
 Xa (a)
 else
 (g83 c d e f g h i j k l m).bind fun a=>
 Xa (a)
 else
 if P0 .eql b 1 then
 (g82 c d e f g h i j k l m 0 0 0 E0 0 0 0 0 0 0 Xb).bind fun a=>
 Xa (a)
 else
 (g83 c d e f g h i j k l m).bind fun a=>
 Xa (a)):=by kernel_rfl
noncomputable def F55:Fn:=⟨22,[4,5],[(2,[(3,.box [.int .i64,.int .i64,.int .i64]),(8,.c (.slice 13)),(9,.c (.int .i64)),(10,.c (.int .i64))])],[],0,[],[],Tryz.f55,[.c (.slice 13),.agg [.int .i64,.int .i64,.int .i64]],[.c (.int .i64),.c (.bool)],[]⟩
def ZwO:F55.S.Ok Tryz.prog 55:=F55.ok Tryz.func55
noncomputable def g55 (a:LL) (b c d:Int):Option (Int×Bool):=F55.S.g [.l a,.i b,.i c,.i d]
noncomputable def Zoy (k:Nat) (a b c:Int) (d:LL) (e f:Int):Option (Int×Bool):=F55.lp [0] 0 r0 k [.i a,.i b,.i c,.l d,.i e,.i f]
def Zpf (k:Nat) (b c d:Int) (e:LL) (f a:Int):Zoy (k+1) b c d e f a =
 (if P0 .lss a f then
 Zn e a hs21 fun (g:Qt30)=>
 if ((P0 .eql g.2.2.1 b)&&((P0 .eql g.2.2.2.1 c)&&((P0 .eql (d4 g).1 d)&&Xc))) then
 Xa (a,Xc)
 else
 Zoy k b c d e f (P1 .add .i64 a 1)
 else
 Xa (0,Xb)):=by kernel_rfl
def ZtU (a:LL) (b c d:Int):g55 a b c d =
 (Zoy ZG b c d a (Xg a:Int) 0):=by kernel_rfl
noncomputable def F56:Fn:=⟨29,[6,7],[(2,[(1,.c (.int .i64)),(2,.c (.int .i64)),(10,.c (.slice 13)),(11,.c (.int .i64)),(12,.c (.int .i64))])],[],0,[],[],Tryz.f56,[.c (.slice 13),.c (.int .i64),.c (.int .i64)],[.c (.int .i64),.c (.bool)],[]⟩
def ZBE:F56.S.Ok Tryz.prog 56:=F56.ok Tryz.func56
noncomputable def g56 (a:LL) (b c:Int):Option (Int×Bool):=F56.S.g [.l a,.i b,.i c]
noncomputable def ZgD (k:Nat) (a b:Int) (c:LL) (d e:Int):Option (Int×Bool):=F56.lp [0] 0 r0 k [.i a,.i b,.l c,.i d,.i e]
def Zjm (k:Nat) (b c:Int) (d:LL) (e a:Int):ZgD (k+1) b c d e a =
 (if P0 .lss a e then
 Zn d a hs21 fun (f:Qt30)=>
 if P0 .eql f.1 b then
 if P0 .eql f.2.1 c then
 Xa (a,Xc)
 else
 ZgD k b c d e (P1 .add .i64 a 1)
 else
 ZgD k b c d e (P1 .add .i64 a 1)
 else
 Xa (0,Xb)):=by kernel_rfl
def ZqA (a:LL) (b c:Int):g56 a b c =
 (ZgD ZG b c a (Xg a:Int) 0):=by kernel_rfl
noncomputable def Zv7:Fn:=⟨6,[2],[],[],0,[],[],Tryz.f191,[.c (.int .i64)],[.c (.bool)],[]⟩
def ZvZ:Zv7.S.Ok Tryz.prog 191:=Zv7.ok Tryz.func191
noncomputable def ZrP (a:Int):Option (Bool):=Zv7.S.g [.i a]
def ZlT (a:Int):ZrP a =
 (Xa ((P0 .neq a a))):=by kernel_rfl
noncomputable def ZwZ:Fn:=⟨20,[4],[],[],0,[],[],Tryz.f158,[.c (.int .i64),.c (.int .i64)],[.c (.int .i64)],[(191,Zv7.S)]⟩
def ZzE:ZwZ.S.Ok Tryz.prog 158:=ZwZ.ok Tryz.func158 ⟨ZvZ,trivial⟩
noncomputable def ZvN (a b:Int):Option (Int):=ZwZ.S.g [.i a,.i b]
def Zrf (a b:Int):ZvN a b =
 ((ZrP a).bind fun d=>
 (ZrP b).bind fun c=>
 if d then
 if c then
 Xa (0)
 else
 Xa ((-1))
 else
 if c then
 Xa (1)
 else
 if P0 .lss a b then
 Xa ((-1))
 else
 if P0 .gtr a b then
 Xa (1)
 else
 Xa (0)):=by kernel_rfl
noncomputable def Zun:Fn:=⟨18,[2],[(3,[(3,.c (.int .i64)),(6,.c (.slice 1)),(7,.c (.int .i64)),(8,.c (.int .i64))])],[],0,[],[],Tryz.f157,[.c (.slice 1)],[.c (.int .i64)],[]⟩
def ZzQ:Zun.S.Ok Tryz.prog 157:=Zun.ok Tryz.func157
noncomputable def Zy4 (a:LL):Option (Int):=Zun.S.g [.l a]
noncomputable def Znd (k:Nat) (a:Int) (b:LL) (c d:Int):Option (Int):=Zun.lp [0] 0 r0 k [.i a,.l b,.i c,.i d]
def WY (k:Nat) (a:Int) (c:LL) (d b:Int):Znd (k+1) a c d b =
 (if P0 .lss b d then
 Zn c b [.int .i64] fun (e:Int)=>
 if P0 .neq e a then
 Xa (e)
 else
 Znd k a c d (P1 .add .i64 b 1)
 else
 Xa (a)):=by kernel_rfl
def Zso (a:LL):Zy4 a =
 (Znd ZG 0 a (Xg a:Int) 0):=by kernel_rfl
noncomputable def ZwM:Fn:=⟨22,[4],[],[],0,[],[],Tryz.f100,[.agg [.int .i64,.int .i64,.int .i64],.agg [.int .i64,.int .i64,.int .i64]],[.c (.int .i64)],[(158,ZwZ.S),(157,Zun.S)]⟩
def ZxF:ZwM.S.Ok Tryz.prog 100:=ZwM.ok Tryz.func100 ⟨ZzE,⟨ZzQ,trivial⟩⟩
noncomputable def ZyH (a b c d e f:Int):Option (Int):=ZwM.S.g [.i a,.i b,.i c,.i d,.i e,.i f]
def Zr3 (a b c d e f:Int):ZyH a b c d e f =
 ((ZvN a d).bind fun g=>
 (ZvN b e).bind fun h=>
 (ZvN c f).bind fun i=>
 (Zy4 (((E0++[[I g]])++[[I h]])++[[I i]])).bind fun j=>
 Xa (j)):=by kernel_rfl
noncomputable def F57:Fn:=⟨9,[4],[],[],0,[],[],Tryz.f57,[.agg [.int .i64,.int .i64,.int .i64],.agg [.int .i64,.int .i64,.int .i64]],[.c (.bool)],[(100,ZwM.S)]⟩
def Zx9:F57.S.Ok Tryz.prog 57:=F57.ok Tryz.func57 ⟨ZxF,trivial⟩
noncomputable def g57 (a b c d e f:Int):Option (Bool):=F57.S.g [.i a,.i b,.i c,.i d,.i e,.i f]
def ZtV (a b c d e f:Int):g57 a b c d e f =
 ((ZyH a b c d e f).bind fun g=>
 Xa ((P0 .lss g 0))):=by kernel_rfl
noncomputable def F87:Fn:=⟨8,[2],[],[],0,[2,5,7],[],Tryz.f87,[.c (.slice 13)],[.c (.own Xc 52)],[]⟩
def ZBX:F87.S.Ok Tryz.prog 87:=F87.ok Tryz.func87
noncomputable def g87 (a:LL):Option (LL):=F87.S.g [.l a]
def ZtF (a:LL):g87 a =
 (Zkn a fun b=>
 if b then
 Xa (E0)
 else
 Zl (ZB E0 a 120)<|
 Xa ((E0++a))):=by kernel_rfl
noncomputable def Zuy:Fn:=⟨8,[2],[],[],0,[],[],Tryz.f101,[.c (.slice 3)],[.c (.own Xb 45)],[]⟩
def Zuk:Zuy.S.Ok Tryz.prog 101:=Zuy.ok Tryz.func101
noncomputable def ZwW (a:LL):Option (LL):=Zuy.S.g [.l a]
def ZrA (a:LL):ZwW a =
 (Zkn a fun b=>
 if b then
 Xa (E0)
 else
 Zl (ZB E0 a 24)<|
 Xa ((E0++a))):=by kernel_rfl
noncomputable def F58:Fn:=⟨8,[2],[],[],0,[],[],Tryz.f58,[.agg hs24],[.agg hs24],[(101,Zuy.S)]⟩
def Zu6:F58.S.Ok Tryz.prog 58:=F58.ok Tryz.func58 ⟨Zuk,trivial⟩
noncomputable def g58 (a c d:Int) (e:LL) (f h j k m n:Int) (o:Bool):Option (Qt36):=F58.S.g [.i a,.i c,.i d,.l e,.i f,.i h,.i j,.i k,.i m,.i n,.b o]
def ZuU (a b c:Int) (d:LL) (e f g h i j:Int) (k:Bool):g58 a b c d e f g h i j k =
 ((ZwW d).bind fun l=>
 Xa (a,b,c,l,e,f,g,h,i,j,k)):=by kernel_rfl
noncomputable def F45:Fn:=⟨24,[2],[(3,[(3,.c (.own Xc 52)),(8,.c (.int .i64)),(9,.c (.int .i64))])],[],0,[2],[],Tryz.f45,[.c (.slice 13)],[.c (.own Xc 52)],[(87,F87.S),(58,F58.S)]⟩
def Zya:F45.S.Ok Tryz.prog 45:=F45.ok Tryz.func45 ⟨ZBX,⟨Zu6,trivial⟩⟩
noncomputable def g45 (a:LL):Option (LL):=F45.S.g [.l a]
noncomputable def Zpg (k:Nat) (a:LL) (b c:Int):Option (LL):=F45.lp [2] 0 r0 k [.l a,.i b,.i c]
def Zpp (k:Nat) (d:LL) (e a:Int):Zpg (k+1) d e a =
 (if P0 .lss a e then
 Zl ((0:Int)≤a)<|
 Zl ((a:Int) < (Xg d:Int))<|
 Zn d a hs21 fun (b:Qt30)=>
 (g58 b.2.2.1 b.2.2.2.1 (d4 b).1 (d4 b).2.1 (d6 b).1 (d6 b).2.1 (d8 b).1 (d8 b).2.1 (df b).1 (df b).2.1 (dg b)).bind fun c=>
 Zl ((0:Int)≤a)<|
 Zl ((a:Int) < (Xg d:Int))<|
 Zl ((0:Int)≤a)<|
 Zl ((a:Int) < (Xg d:Int))<|
 Zpg k (Zw d (Int.toNat a) 2 [I c.1,I c.2.1,I c.2.2.1,AV.slice Xb 3 c.2.2.2.1,I (d4 c).1,I (d4 c).2.1,I (d6 c).1,I (d6 c).2.1,I (d8 c).1,I (d8 c).2.1,B c.2.2.2.2.2.2.2.2.2.2]) e (P1 .add .i64 a 1)
 else
 Xa (d)):=by kernel_rfl
def Ztq (a:LL):g45 a =
 ((g87 a).bind fun b=>
 Zpg ZG b (Xg b:Int) 0):=by kernel_rfl
noncomputable def F59.S:Fun:=ZAh Xb 52 120
def ZBy:F59.S.Ok Tryz.prog 59:=insF_ok (T:=42) (B:=4) (I:=3) (e:=52) (fO:=102) (fR:=103) mixed (by kernel_rfl) Tryz.func59 (by kernel_rfl) ⟨by kernel_rfl,by kernel_rfl,by kernel_rfl⟩ Tryz.func102 (by kernel_rfl) (by kernel_rfl) (by kernel_rfl) (by kernel_rfl)
noncomputable def g59 (a:LL) (b:Int) (c:LL):Option LL:=F59.S.g [.l a,.i b,.l c]
def ZuF (a:LL) (b:Int) (c:LL):g59 a b c=Zzp 120 a b c:=rfl
noncomputable def F20:Fn:=⟨64,[4,5],[(7,[(0,.c (.slice 13)),(3,.box hs21),(10,.c (.int .i64)),(37,.c (.slice 13)),(38,.c (.int .i64)),(39,.c (.int .i64))])],[],0,[],[],Tryz.f20,[.c (.slice 13),.agg hs21],[.c (.slice 13),.c (.bool)],[(55,F55.S),(56,F56.S),(57,F57.S),(45,F45.S),(58,F58.S),(59,F59.S)]⟩
def Zz8:F20.S.Ok Tryz.prog 20:=F20.ok Tryz.func20 ⟨ZwO,⟨ZBE,⟨Zx9,⟨Zya,⟨Zu6,⟨ZBy,trivial⟩⟩⟩⟩⟩⟩
noncomputable def g20 (a:LL) (c d e f h:Int) (j:LL) (k m n o p q:Int) (r:Bool):Option (LL×Bool):=F20.S.g [.l a,.i c,.i d,.i e,.i f,.i h,.l j,.i k,.i m,.i n,.i o,.i p,.i q,.b r]
noncomputable def Zoi (k:Nat) (a:LL) (c d e f g:Int) (h:LL) (j m n o p q:Int) (r:Bool) (s:Int) (t:LL) (u v:Int):Option (LL×Bool):=F20.lp [2,1,1,0] 0 r0 k [.l a,.i c,.i d,.i e,.i f,.i g,.l h,.i j,.i m,.i n,.i o,.i p,.i q,.b r,.i s,.l t,.i u,.i v]
def Zor (k:Nat) (h:LL) (i j c d e:Int) (l:LL) (m n o p q r:Int) (s:Bool) (t:Int) (u:LL) (v f:Int):Zoi (k+1) h i j c d e l m n o p q r s t u v f =
 (if P0 .lss f v then
 Zn u f hs21 fun (g:Qt30)=>
 (g57 c d e g.2.2.1 g.2.2.2.1 (d4 g).1).bind fun w=>
 if w then
 (g45 h).bind fun x=>
 (g58 c d e l m n o p q r s).bind fun a=>
 (g59 x f (E0++[[I i,I j,I a.1,I a.2.1,I a.2.2.1,AV.slice Xb 3 a.2.2.2.1,I (d4 a).1,I (d4 a).2.1,I (d6 a).1,I (d6 a).2.1,I (d8 a).1,I (d8 a).2.1,B a.2.2.2.2.2.2.2.2.2.2]])).bind fun y=>
 Xa (y,Xc)
 else
 Zoi k h i j c d e l m n o p q r s t u v (P1 .add .i64 f 1)
 else
 (g45 h).bind fun g=>
 (g58 c d e l m n o p q r s).bind fun b=>
 (g59 g t (E0++[[I i,I j,I b.1,I b.2.1,I b.2.2.1,AV.slice Xb 3 b.2.2.2.1,I (d4 b).1,I (d4 b).2.1,I (d6 b).1,I (d6 b).2.1,I (d8 b).1,I (d8 b).2.1,B b.2.2.2.2.2.2.2.2.2.2]])).bind fun z=>
 Xa (z,Xc)):=by kernel_rfl
def Zqa (a:LL) (b c d e f:Int) (g:LL) (h i j k l m:Int) (n:Bool):g20 a b c d e f g h i j k l m n =
 ((g55 a d e f).bind fun o=>
 (g56 a b c).bind fun p=>
 if o.2 then
 Xa (E0,Xb)
 else
 if p.2 then
 Xa (E0,Xb)
 else
 Zoi ZG a b c d e f g h i j k l m n (Xg a:Int) a (Xg a:Int) 0):=by kernel_rfl
noncomputable def Zud:Fn:=⟨12,[2],[],[],0,[],[],Tryz.f194,[.agg [.int .i64,.int .i64]],[.c (.int .i64)],[(165,Zp7.S)]⟩
def Zv0:Zud.S.Ok Tryz.prog 194:=Zud.ok Tryz.func194 ⟨ZnJ,trivial⟩
noncomputable def Ztb (a b:Int):Option (Int):=Zud.S.g [.i a,.i b]
def ZrI (b a:Int):Ztb b a =
 ((Zon b a).bind fun c=>
 if (!c) then
 Xa (0)
 else
 Zl ((0:Int)≤a)<|
 Xa ((P1 .add .i64 b (P1 .shl .i64 1 a)))):=by kernel_rfl
noncomputable def Zvl:Fn:=⟨25,[4],[],[],0,[],[],Tryz.f170,[.agg [.int .i64,.int .i64],.agg [.int .i64,.int .i64]],[.c (.bool)],[(165,Zp7.S),(194,Zud.S)]⟩
def ZtJ:Zvl.S.Ok Tryz.prog 170:=Zvl.ok Tryz.func170 ⟨ZnJ,⟨Zv0,trivial⟩⟩
noncomputable def Zw4 (a b c d:Int):Option (Bool):=Zvl.S.g [.i a,.i b,.i c,.i d]
def ZrR (a c b d:Int):Zw4 a c b d =
 ((Zon a c).bind fun e=>
 if e then
 (Zon b d).bind fun f=>
 if f then
 if P0 .leq a b then
 (Ztb b d).bind fun g=>
 (Ztb a c).bind fun h=>
 Xa ((P0 .leq g h))
 else
 Xa (Xb)
 else
 Xa (Xb)
 else
 Xa (Xb)):=by kernel_rfl
noncomputable def ZwQ:Fn:=⟨25,[4],[],[],0,[],[],Tryz.f195,[.agg [.int .i64,.int .i64],.agg [.int .i64,.int .i64]],[.c (.bool)],[(165,Zp7.S),(194,Zud.S)]⟩
def ZzS:ZwQ.S.Ok Tryz.prog 195:=ZwQ.ok Tryz.func195 ⟨ZnJ,⟨Zv0,trivial⟩⟩
noncomputable def ZzH (a b c d:Int):Option (Bool):=ZwQ.S.g [.i a,.i b,.i c,.i d]
def ZrG (a c b d:Int):ZzH a c b d =
 ((Zon a c).bind fun e=>
 if e then
 (Zon b d).bind fun f=>
 if f then
 (Ztb b d).bind fun g=>
 if P0 .lss a g then
 (Ztb a c).bind fun h=>
 Xa ((P0 .lss b h))
 else
 Xa (Xb)
 else
 Xa (Xb)
 else
 Xa (Xb)):=by kernel_rfl
noncomputable def ZmO:Fn:=⟨61,[6],[(3,[(0,.c (.slice 13)),(2,.c (.slice 7)),(7,.c (.int .i64)),(8,.c (.bool)),(20,.c (.slice 13)),(21,.c (.int .i64)),(22,.c (.int .i64))]),(8,[(0,.c (.slice 13)),(2,.c (.slice 7)),(7,.c (.int .i64)),(8,.c (.bool)),(11,.box [.int .i64,.int .i64]),(20,.c (.slice 13)),(21,.c (.int .i64)),(22,.c (.int .i64)),(49,.c (.slice 7)),(50,.c (.int .i64)),(51,.c (.int .i64))])],[],0,[],[],Tryz.f171,[.c (.slice 13),.agg [.int .i64,.int .i64,.int .i64],.c (.slice 7)],[.c (.bool)],[(55,F55.S),(166,Zu4.S),(170,Zvl.S),(195,ZwQ.S)]⟩
def Zu2:ZmO.S.Ok Tryz.prog 171:=ZmO.ok Tryz.func171 ⟨ZwO,⟨Ztp,⟨ZtJ,⟨ZzS,trivial⟩⟩⟩⟩
noncomputable def Zu0 (a:LL) (b c d:Int) (e:LL):Option (Bool):=ZmO.S.g [.l a,.i b,.i c,.i d,.l e]
noncomputable def Za9 (q:List V→Option (Bool)) (k:Nat) (a c:LL) (d:Int) (e:Bool) (f g:Int) (h:LL) (j m:Int) (n:LL) (o p:Int):Option (Bool):=ZmO.lp [3,3,0,3,1,0] 1 (ZlY r0 0 q) k [.l a,.l c,.i d,.b e,.i f,.i g,.l h,.i j,.i m,.l n,.i o,.i p]
def ZnB (t:List V→Option (Bool)) (k:Nat) (d e:LL) (f:Int) (g:Bool) (h j:Int) (m:LL) (n o:Int) (p:LL) (q c:Int):Za9 t (k+1) d e f g h j m n o p q c =
 (if P0 .lss c q then
 Zn p c hs31 fun (a:Qt42)=>
 (ZsY a.1 a.2.1 a.2.2.1 a.2.2.2.1 (d4 a).1 (d4 a).2.1 a.2.2.2.2.2.2).bind fun r=>
 (ZzH h j r.1 r.2).bind fun s=>
 if s then
 Xa (Xc)
 else
 Za9 t k d e f g h j m n o p q (P1 .add .i64 c 1)
 else
 t [.l d,.l e,.i f,.b g,.l m,.i n,.i (P1 .add .i64 o 1)]):=by kernel_rfl
noncomputable def Zd4 (k:Nat) (a c:LL) (d:Int) (e:Bool) (f:LL) (g h:Int):Option (Bool):=ZmO.lp [2] 0 r0 k [.l a,.l c,.i d,.b e,.l f,.i g,.i h]
def Zlq (k:Nat) (f a:LL) (g:Int) (h:Bool) (i:LL) (j d:Int):Zd4 (k+1) f a g h i j d =
 (if P0 .lss d j then
 Zn i d hs21 fun (b:Qt30)=>
 (ZsY (d6 b).1 (d6 b).2.1 (d8 b).1 (d8 b).2.1 (df b).1 (df b).2.1 (dg b)).bind fun c=>
 if h then
 if P0 .eql (d6 b).1 1 then
 Zn f g hs21 fun (e:Qt30)=>
 (ZsY (d6 e).1 (d6 e).2.1 (d8 e).1 (d8 e).2.1 (df e).1 (df e).2.1 (dg e)).bind fun l=>
 (Zw4 c.1 c.2 l.1 l.2).bind fun m=>
 if m then
 Zd4 k f a g h i j (P1 .add .i64 d 1)
 else
 Za9 (ZmO.lp [2] 0 r0 k) ZG f a g h c.1 c.2 i j d a (Xg a:Int) 0
 else
 Za9 (ZmO.lp [2] 0 r0 k) ZG f a g h c.1 c.2 i j d a (Xg a:Int) 0
 else
 Za9 (ZmO.lp [2] 0 r0 k) ZG f a g h c.1 c.2 i j d a (Xg a:Int) 0
 else
 Xa (Xb)):=by kernel_rfl
def Zsc (a:LL) (b c d:Int) (e:LL):Zu0 a b c d e =
 ((g55 a b c d).bind fun f=>
 Zd4 ZG a e f.1 f.2 a (Xg a:Int) 0):=by kernel_rfl
noncomputable def Zs3:Fn:=⟨34,[4],[(3,[(0,.box hs5),(5,.c (.slice 13)),(14,.c (.slice 13)),(15,.c (.int .i64)),(16,.c (.int .i64))])],[0],0,[],[],Tryz.f169,[.box hs5,.c (.slice 13)],[.c (.bool)],[(20,F20.S)]⟩
def Zws:Zs3.S.Ok Tryz.prog 169:=Zs3.ok Tryz.func169 ⟨Zz8,trivial⟩
noncomputable def ZpL (a c d:Int) (e:Bool) (f h:LL) (j k m n o p q r s t u v w x y z A C D E:Int) (G:LL) (H J K L M N:Int) (O:Bool) (P:Int) (Q R T U:LL):Option (Qt13):=Zs3.S.g [.i a,.i c,.i d,.b e,.l f,.l h,.i j,.i k,.i m,.i n,.i o,.i p,.i q,.i r,.i s,.i t,.i u,.i v,.i w,.i x,.i y,.i z,.i A,.i C,.i D,.i E,.l G,.i H,.i J,.i K,.i L,.i M,.i N,.b O,.i P,.l Q,.l R,.l T,.l U]
noncomputable def Zd8 (k:Nat) (a c d:Int) (e:Bool) (f g:LL) (h j m n o p q r s t u v w x y z A C D E:Int) (G:LL) (H J K L M N:Int) (O:Bool) (P:Int) (Q R T U V:LL) (W X:Int):Option (Qt13):=Zs3.lp [0] 0 r0 k [.i a,.i c,.i d,.b e,.l f,.l g,.i h,.i j,.i m,.i n,.i o,.i p,.i q,.i r,.i s,.i t,.i u,.i v,.i w,.i x,.i y,.i z,.i A,.i C,.i D,.i E,.l G,.i H,.i J,.i K,.i L,.i M,.i N,.b O,.i P,.l Q,.l R,.l T,.l U,.l V,.i W,.i X]
def Zcw (k:Nat) (b c d:Int) (e:Bool) (R f:LL) (g h i j l m n o p q r s t u v w x y z A:Int) (C:LL) (D E G H J K:Int) (L:Bool) (M:Int) (N O P T U:LL) (V Q:Int):Zd8 (k+1) b c d e R f g h i j l m n o p q r s t u v w x y z A C D E G H J K L M N O P T U V Q =
 (if P0 .lss Q V then
 Zn U Q hs21 fun (a:Qt30)=>
 (g20 T a.1 a.2.1 a.2.2.1 a.2.2.2.1 (d4 a).1 (d4 a).2.1 (d6 a).1 (d6 a).2.1 (d8 a).1 (d8 a).2.1 (df a).1 (df a).2.1 (dg a)).bind fun W=>
 if (!W.2) then
 Xa (Xb,b,c,d,e,R,f,g,h,i,j,l,m,n,o,p,q,r,s,t,u,v,w,x,y,z,A,C,D,E,G,H,J,K,L,M,N,O,P)
 else
 Zd8 k b c d e R f g h i j l m n o p q r s t u v w x y z A C D E G H J K L M N O P W.1 U V (P1 .add .i64 Q 1)
 else
 Xa (Xc,b,c,d,e,T,f,g,h,i,j,l,m,n,o,p,q,r,s,t,u,v,w,x,y,z,A,C,D,E,G,H,J,K,L,M,N,O,P)):=by kernel_rfl
def ZhA (c d e:Int) (f:Bool) (a g:LL) (h i j k l m n o p q r s t u v w x y z A:Int) (C:LL) (D E G H J K:Int) (L:Bool) (M:Int) (N O P b:LL):ZpL c d e f a g h i j k l m n o p q r s t u v w x y z A C D E G H J K L M N O P b =
 (Zd8 ZG c d e f a g h i j k l m n o p q r s t u v w x y z A C D E G H J K L M N O P a b (Xg b:Int) 0):=by kernel_rfl
noncomputable def F94.S:Fun:=ZwG Xb 52
def ZCa:F94.S.Ok Tryz.prog 94:=delF_ok (T:=42) (B:=4) (I:=3) (U:=0) (e:=52) (bytes:=120) mixed (by kernel_rfl) Tryz.func94 (by kernel_rfl) ⟨by kernel_rfl,by kernel_rfl,by kernel_rfl⟩
noncomputable def g94 (a:LL) (b c:Int):Option LL:=F94.S.g [.l a,.i b,.i c]
def Zwf (a:LL) (b c:Int):g94 a b c=ZqB a b c:=rfl
noncomputable def F47:Fn:=⟨22,[4,5],[],[],0,[],[],Tryz.f47,[.c (.slice 13),.agg [.int .i64,.int .i64,.int .i64]],[.c (.slice 13),.c (.bool)],[(55,F55.S),(45,F45.S),(94,F94.S)]⟩
def ZAt:F47.S.Ok Tryz.prog 47:=F47.ok Tryz.func47 ⟨ZwO,⟨Zya,⟨ZCa,trivial⟩⟩⟩
noncomputable def g47 (a:LL) (b c d:Int):Option (LL×Bool):=F47.S.g [.l a,.i b,.i c,.i d]
def ZvY (a:LL) (c d e:Int):g47 a c d e =
 ((g55 a c d e).bind fun b=>
 if (!b.2) then
 Xa (E0,Xb)
 else
 (g45 a).bind fun f=>
 (g94 f b.1 (P1 .add .i64 b.1 1)).bind fun g=>
 Xa (g,Xc)):=by kernel_rfl
noncomputable def F5:Fn:=⟨38,[6],[(3,[(7,.ptr 15 0),(16,.c (.slice 13)),(17,.c (.int .i64)),(18,.c (.int .i64)),(15,.box hs5)])],[],0,[],[],Tryz.f5,[.c (.int .i64),.agg [.int .i64,.int .i64,.bool],.c (.slice 13)],[.box hs5],[(20,F20.S)]⟩
def ok5:F5.S.Ok Tryz.prog 5:=F5.ok Tryz.func5 ⟨Zz8,trivial⟩
noncomputable def g5 (a c d:Int) (e:Bool) (f:LL):Option (Qt15):=F5.S.g [.i a,.i c,.i d,.b e,.l f]
end Go.Proofs.YtnkmbgbpkgmbnaaGreat
