import Derived.Test.YtjldbnbdcmfbmaaGreatF8a
open Option renaming some→Xa
open Bool renaming true→Xb,false→Xc
open List renaming length→Xh
open Go.IntKind renaming wrap→Xi
open Int renaming toNat→XJ
set_option linter.unusedVariables false
set_option linter.unusedSimpArgs false
set_option linter.defProp false
namespace Go.Proofs.YtjldbnbdcmfbmaaGreat
open Go Go.AM
set_option maxRecDepth 100000
noncomputable def Zsg:Fn:=⟨50,[4],[(3,[(0,.c (.slice 1)),(1,.c (.int .u64)),(5,.c (.int .i64)),(6,.c (.int .u64))]),(9,[(0,.c (.slice 1)),(1,.c (.int .u64)),(5,.c (.int .i64)),(7,.c (.own Xb 5)),(8,.c (.int .i64))])],[],0,[],[(16,[(7,0)])],Tryz.f113,[.c (.slice 1),.c (.int .u64)],[.c (.own Xc 5)],[]⟩
def Zs2:Zsg.S.Ok Tryz.prog 113:=Zsg.ok Tryz.func113
noncomputable def ZvW (a:LL) (b:Int):Option (LL):=Zsg.S.g [.l a,.i b]
noncomputable def Zey (k:Nat) (a:LL) (b c:Int) (d:LL) (e:Int):Option (LL):=Zsg.lp [2,1,4] 0 r0 k [.l a,.i b,.i c,.l d,.i e]
def Zh5 (k:Nat) (b:LL) (d e:Int) (c:LL) (a:Int):Zey (k+1) b d e c a =
 (if P0 .lss a e then
 if P0 .lss a (P1 .sub .i64 e 1) then
 Zy ((0:Int)≤(P1 .add .i64 (Xh b:Int) a))<|
 Zy (((P1 .add .i64 (Xh b:Int) a):Int) < (Xh c:Int))<|
 Zy ((0:Int)≤(P1 .add .i64 (Xh b:Int) a))<|
 Zy (((P1 .add .i64 (Xh b:Int) a):Int) < (Xh c:Int))<|
 Zy ((0:Int)≤7)<|
 Zey k b (P1 .shr .u64 d 7) e (Jk c (XJ (P1 .add .i64 (Xh b:Int) a)) 0 [AV.val (.int .u8 (P1 .or .u8 (Xi .u8 (P1 .and .u64 d 127)) 128))]) (P1 .add .i64 a 1)
 else
 Zy ((0:Int)≤(P1 .add .i64 (Xh b:Int) a))<|
 Zy (((P1 .add .i64 (Xh b:Int) a):Int) < (Xh c:Int))<|
 Zy ((0:Int)≤(P1 .add .i64 (Xh b:Int) a))<|
 Zy (((P1 .add .i64 (Xh b:Int) a):Int) < (Xh c:Int))<|
 Zy ((0:Int)≤7)<|
 Zey k b (P1 .shr .u64 d 7) e (Jk c (XJ (P1 .add .i64 (Xh b:Int) a)) 0 [AV.val (.int .u8 (Xi .u8 (P1 .and .u64 d 127)))]) (P1 .add .i64 a 1)
 else
 Xa (c)):=by kernel_rfl
noncomputable def Zh8 (k:Nat) (a:LL) (b c d:Int):Option (LL):=Zsg.lp [2] 0 r0 k [.l a,.i b,.i c,.i d]
def Zjv (k:Nat) (a:LL) (c b d:Int):Zh8 (k+1) a c b d =
 (if P0 .gtr d 0 then
 Zy ((0:Int)≤7)<|
 Zh8 k a c (P1 .add .i64 b 1) (P1 .shr .u64 d 7)
 else
 Zy (ZuV (P1 .add .i64 (Xh a:Int) b) 1)<|
 Zy (((P1 .add .i64 (Xh a:Int) b):Int)≤(P1 .add .i64 (Xh a:Int) b))<|
 Zy (((P1 .add .i64 (Xh a:Int) b):Int)≤(P1 .add .i64 (Xh a:Int) b))<|
 Zey Zr a c b (ZnF (List.replicate (XJ (P1 .add .i64 (Xh a:Int) b)) [AV.val (.int .u8 0)]) a) 0):=by kernel_rfl
def Zw2 (b:LL) (a:Int):ZvW b a =
 (Zy ((0:Int)≤7)<|
 Zh8 Zr b a 1 (P1 .shr .u64 a 7)):=by kernel_rfl
noncomputable def F38:Fn:=⟨14,[],[],[0],0,[],[],Tryz.f38,[.box [.own Xc 5],.c (.int .i64)],[],[(113,Zsg.S)]⟩
def ZoD:F38.S.Ok Tryz.prog 38:=F38.ok Tryz.func38 ⟨Zs2,trivial⟩
noncomputable def g38 (a:LL) (b:Int):Option (LL):=F38.S.g [.l a,.i b]
def ZAi (a:LL) (b:Int):g38 a b =
 ((ZvW a (Xi .u64 b)).bind fun c=>
 Xa (c)):=by kernel_rfl
noncomputable def Zyl:Fn:=⟨25,[4],[(2,[(0,.c (.own Xc 5)),(13,.c (.slice 1)),(14,.c (.int .i64)),(15,.c (.int .i64))])],[],0,[],[],Tryz.f181,[.c (.own Xc 5),.agg [.int .i64,.int .i64,.int .i64]],[.c (.own Xc 5)],[(113,Zsg.S)]⟩
def ZAS:Zyl.S.Ok Tryz.prog 181:=Zyl.ok Tryz.func181 ⟨Zs2,trivial⟩
noncomputable def ZBm (a:LL) (b c d:Int):Option (LL):=Zyl.S.g [.l a,.i b,.i c,.i d]
noncomputable def ZoQ (k:Nat) (a b:LL) (c d:Int):Option (LL):=Zyl.lp [0] 0 r0 k [.l a,.l b,.i c,.i d]
def KH (k:Nat) (b c:LL) (d a:Int):ZoQ (k+1) b c d a =
 (if P0 .lss a d then
 Zj c a [.int .i64] fun (e:Int)=>
 (ZvW b (Xi .u64 e)).bind fun f=>
 ZoQ k f c d (P1 .add .i64 a 1)
 else
 Xa (b)):=by kernel_rfl
def Zpz (d:LL) (a b c:Int):ZBm d a b c =
 (ZoQ Zr d (((E0++[[I a]])++[[I b]])++[[I c]]) (Xh (((E0++[[I a]])++[[I b]])++[[I c]]):Int) 0):=by kernel_rfl
noncomputable def ZxP:Fn:=⟨13,[],[],[0],0,[],[],Tryz.f115,[.box [.own Xc 5],.agg [.int .i64,.int .i64,.int .i64]],[],[(181,Zyl.S)]⟩
def ZsJ:ZxP.S.Ok Tryz.prog 115:=ZxP.ok Tryz.func115 ⟨ZAS,trivial⟩
noncomputable def Zu7 (a:LL) (b c d:Int):Option (LL):=ZxP.S.g [.l a,.i b,.i c,.i d]
def Zvm (a:LL) (b c d:Int):Zu7 a b c d =
 ((ZBm a b c d).bind fun e=>
 Xa (e)):=by kernel_rfl
noncomputable def ZDG:Fn:=⟨14,[4],[],[],0,[],[],Tryz.f218,[.c (.slice 1),.c (.int .i64)],[.c (.own Xc 5)],[(113,Zsg.S)]⟩
def ZHY:ZDG.S.Ok Tryz.prog 218:=ZDG.ok Tryz.func218 ⟨Zs2,trivial⟩
noncomputable def ZEx (a:LL) (b:Int):Option (LL):=ZDG.S.g [.l a,.i b]
def ZxV (b:LL) (a:Int):ZEx b a =
 (Zy ((0:Int)≤1)<|
 Zy ((0:Int)≤63)<|
 (ZvW b (P1 .xor .u64 (P1 .shl .u64 (Xi .u64 a) 1) (Xi .u64 (P1 .shr .i64 a 63)))).bind fun c=>
 Xa (c)):=by kernel_rfl
noncomputable def ZA3:Fn:=⟨46,[],[(2,[(0,.box [.own Xc 5]),(30,.c (.slice 1)),(31,.c (.int .i64)),(32,.c (.int .i64))])],[0],0,[],[],Tryz.f179,[.box [.own Xc 5],.agg hs13],[],[(218,ZDG.S)]⟩
def ZH8:ZA3.S.Ok Tryz.prog 179:=ZA3.ok Tryz.func179 ⟨ZHY,trivial⟩
noncomputable def ZFd (a:LL) (b c d e f h j k m n o p:Int):Option (LL):=ZA3.S.g [.l a,.i b,.i c,.i d,.i e,.i f,.i h,.i j,.i k,.i m,.i n,.i o,.i p]
noncomputable def ZiQ (k:Nat) (a b:LL) (c d:Int):Option (LL):=ZA3.lp [0] 0 r0 k [.l a,.l b,.i c,.i d]
def Zio (k:Nat) (b c:LL) (d a:Int):ZiQ (k+1) b c d a =
 (if P0 .lss a d then
 Zj c a [.int .i64] fun (e:Int)=>
 (ZEx b e).bind fun f=>
 ZiQ k f c d (P1 .add .i64 a 1)
 else
 Xa (b)):=by kernel_rfl
def Zwa (m:LL) (a b c d e f g h i j k l:Int):ZFd m a b c d e f g h i j k l =
 (ZiQ Zr m ((((((((((((E0++[[I a]])++[[I b]])++[[I c]])++[[I d]])++[[I e]])++[[I f]])++[[I g]])++[[I h]])++[[I i]])++[[I j]])++[[I k]])++[[I l]]) (Xh ((((((((((((E0++[[I a]])++[[I b]])++[[I c]])++[[I d]])++[[I e]])++[[I f]])++[[I g]])++[[I h]])++[[I i]])++[[I j]])++[[I k]])++[[I l]]):Int) 0):=by kernel_rfl
noncomputable def Zzq:Fn:=⟨45,[2,3],[(8,[(1,.box hs27),(5,.c (.own Xc 5)),(31,.c (.int .i64))])],[],0,[],[],Tryz.f231,[.agg hs27],[.c (.own Xc 5),.c (.int .i64)],[(166,Zx0.S)]⟩
def ZHy:Zzq.S.Ok Tryz.prog 231:=Zzq.ok Tryz.func231 ⟨Zxr,trivial⟩
noncomputable def ZEH (a c d e f h:Int) (j:Bool):Option (LL×Int):=Zzq.S.g [.i a,.i c,.i d,.i e,.i f,.i h,.b j]
noncomputable def Zif (k:Nat) (a c d e f g:Int) (h:Bool) (j:LL) (m:Int):Option (LL×Int):=Zzq.lp [0,1,0,0] 0 r0 k [.i a,.i c,.i d,.i e,.i f,.i g,.b h,.l j,.i m]
def VX (k:Nat) (d b e f g h:Int) (i:Bool) (c:LL) (a:Int):Zif (k+1) d b e f g h i c a =
 (if P0 .lss a 5 then
 Zy ((0:Int)≤(P1 .mul .i64 8 a))<|
 Zy (Z6 c (E0++[[AV.val (.int .u8 (Xi .u8 (P1 .shr .i64 b (P1 .mul .i64 8 a))))]]) 1)<|
 Zif k d b e f g h i (c++(E0++[[AV.val (.int .u8 (Xi .u8 (P1 .shr .i64 b (P1 .mul .i64 8 a))))]])) (P1 .add .i64 a 1)
 else
 Xa (c,0)):=by kernel_rfl
def Zxv (a g b c d e:Int) (f:Bool):ZEH a g b c d e f =
 ((ZBC a g b c d e f).bind fun h=>
 if (!h) then
 Xa (E0,1)
 else
 if f then
 Zif Zr a g b c d e f (((((E0++[[AV.val (.int .u8 (Xi .u8 a))]])++[[AV.val (.int .u8 (Xi .u8 b))]])++[[AV.val (.int .u8 (Xi .u8 (P1 .add .i64 c 8)))]])++[[AV.val (.int .u8 (Xi .u8 d))]])++[[AV.val (.int .u8 (Xi .u8 e))]]) 0
 else
 Zif Zr a g b c d e f (((((E0++[[AV.val (.int .u8 (Xi .u8 a))]])++[[AV.val (.int .u8 (Xi .u8 b))]])++[[AV.val (.int .u8 (Xi .u8 c))]])++[[AV.val (.int .u8 (Xi .u8 d))]])++[[AV.val (.int .u8 (Xi .u8 e))]]) 0):=by kernel_rfl
noncomputable def ZAB:Fn:=⟨40,[2,3],[(5,[(1,.box hs16),(4,.c (.own Xc 5)),(21,.c (.slice 3)),(22,.c (.int .i64)),(23,.c (.int .i64))])],[],0,[],[],Tryz.f219,[.agg hs16],[.c (.own Xc 5),.c (.int .i64)],[(95,F95.S),(181,Zyl.S),(113,Zsg.S),(231,Zzq.S)]⟩
def ZHh:ZAB.S.Ok Tryz.prog 219:=ZAB.ok Tryz.func219 ⟨Zx4,⟨ZAS,⟨Zs2,⟨ZHy,trivial⟩⟩⟩⟩
noncomputable def ZFT (a c d:Int) (e:LL) (f h j k m n:Int) (o:Bool):Option (LL×Int):=ZAB.S.g [.i a,.i c,.i d,.l e,.i f,.i h,.i j,.i k,.i m,.i n,.b o]
noncomputable def ZlS (k:Nat) (a c d:Int) (e:LL) (f g h j m n:Int) (o:Bool) (p q:LL) (r s:Int):Option (LL×Int):=ZAB.lp [0,1,3] 0 r0 k [.i a,.i c,.i d,.l e,.i f,.i g,.i h,.i j,.i m,.i n,.b o,.l p,.l q,.i r,.i s]
def ZjT (k:Nat) (n o p:Int) (q:LL) (d e f g h i:Int) (j:Bool) (b l:LL) (m c:Int):ZlS (k+1) n o p q d e f g h i j b l m c =
 (if P0 .lss c m then
 Zj l c [.int .i64,.int .i64,.int .i64] fun (a:Int×Int×Int)=>
 (ZBm b a.1 a.2.1 a.2.2).bind fun r=>
 ZlS k n o p q d e f g h i j r l m (P1 .add .i64 c 1)
 else
 (ZEH d e f g h i j).bind fun a=>
 Zy (Z6 b a.1 1)<|
 Xa ((b++a.1),0)):=by kernel_rfl
def Zvq (b c d:Int) (a:LL) (e f g h i j:Int) (k:Bool):ZFT b c d a e f g h i j k =
 ((g95 b c d a e f g h i j k).bind fun l=>
 if (!l) then
 Xa (E0,1)
 else
 (ZBm E0 b c d).bind fun m=>
 (ZvW m (Xi .u64 (Xh a:Int))).bind fun n=>
 ZlS Zr b c d a e f g h i j k n a (Xh a:Int) 0):=by kernel_rfl
noncomputable def ZxZ:Fn:=⟨24,[],[],[0],0,[],[],Tryz.f180,[.box [.own Xc 5],.agg hs16],[],[(219,ZAB.S),(38,F38.S)]⟩
def Zvc:ZxZ.S.Ok Tryz.prog 180:=ZxZ.ok Tryz.func180 ⟨ZHh,⟨ZoD,trivial⟩⟩
noncomputable def Zye (a:LL) (c d e:Int) (f:LL) (h j k m n o:Int) (p:Bool):Option (LL):=ZxZ.S.g [.l a,.i c,.i d,.i e,.l f,.i h,.i j,.i k,.i m,.i n,.i o,.b p]
def Zvs (b:LL) (c d e:Int) (f:LL) (g h i j k l:Int) (m:Bool):Zye b c d e f g h i j k l m =
 ((ZFT c d e f g h i j k l m).bind fun a=>
 (g38 b (Xh a.1:Int)).bind fun n=>
 Zy (Z6 n a.1 1)<|
 Xa ((n++a.1))):=by kernel_rfl
noncomputable def ZBA:Fn:=⟨24,[],[],[0],0,[],[],Tryz.f114,[.box [.own Xc 5],.agg hs6],[],[(115,ZxP.S),(179,ZA3.S),(38,F38.S),(180,ZxZ.S)]⟩
def ZCO:ZBA.S.Ok Tryz.prog 114:=ZBA.ok Tryz.func114 ⟨ZsJ,⟨ZH8,⟨ZoD,⟨Zvc,trivial⟩⟩⟩⟩
noncomputable def ZD0 (a:LL) (c d e f h j k m n o p q r s t u v w x y:Int) (z:LL) (A C D E G H:Int) (J:Bool):Option (LL):=ZBA.S.g [.l a,.i c,.i d,.i e,.i f,.i h,.i j,.i k,.i m,.i n,.i o,.i p,.i q,.i r,.i s,.i t,.i u,.i v,.i w,.i x,.i y,.l z,.i A,.i C,.i D,.i E,.i G,.i H,.b J]
def ZxI (a:LL) (b c d e f g h i j k l m n o p q r s t u:Int) (v:LL) (w x y z A C:Int) (D:Bool):ZD0 a b c d e f g h i j k l m n o p q r s t u v w x y z A C D =
 ((Zu7 a b c d).bind fun E=>
 (ZFd E e f g h i j k l m n o p).bind fun G=>
 (g38 G q).bind fun H=>
 (g38 H r).bind fun J=>
 (Zye J s t u v w x y z A C D).bind fun K=>
 Xa (K)):=by kernel_rfl
noncomputable def ZAU:Fn:=⟨9,[],[],[0],0,[],[],Tryz.f116,[.box [.own Xc 5],.c (.bool)],[],[(38,F38.S)]⟩
def ZzD:ZAU.S.Ok Tryz.prog 116:=ZAU.ok Tryz.func116 ⟨ZoD,trivial⟩
noncomputable def ZDp (a:LL) (c:Bool):Option (LL):=ZAU.S.g [.l a,.b c]
def ZwA (a:LL) (c:Bool):ZDp a c =
 (if c then
 (g38 a 1).bind fun b=>
 Xa (b)
 else
 (g38 a 0).bind fun b=>
 Xa (b)):=by kernel_rfl
noncomputable def ZCy:Fn:=⟨20,[],[(2,[(0,.box [.own Xc 5]),(10,.c (.slice 11)),(11,.c (.int .i64)),(12,.c (.int .i64))])],[0],0,[],[],Tryz.f117,[.box [.own Xc 5],.c (.slice 11)],[],[(38,F38.S),(180,ZxZ.S)]⟩
def ZFJ:ZCy.S.Ok Tryz.prog 117:=ZCy.ok Tryz.func117 ⟨ZoD,⟨Zvc,trivial⟩⟩
noncomputable def ZHq (a b:LL):Option (LL):=ZCy.S.g [.l a,.l b]
noncomputable def Zl0 (k:Nat) (a b:LL) (c d:Int):Option (LL):=ZCy.lp [2] 0 r0 k [.l a,.l b,.i c,.i d]
def Zie (k:Nat) (c d:LL) (e b:Int):Zl0 (k+1) c d e b =
 (if P0 .lss b e then
 Zj d b hs16 fun (a:Qt31)=>
 (Zye c a.1 a.2.1 a.2.2.1 a.2.2.2.1 (d4 a).1 (d4 a).2.1 (d6 a).1 (d6 a).2.1 (d8 a).1 (d8 a).2.1 a.2.2.2.2.2.2.2.2.2.2).bind fun f=>
 Zl0 k f d e (P1 .add .i64 b 1)
 else
 Xa (c)):=by kernel_rfl
def Zvl (b a:LL):ZHq b a =
 ((g38 b (Xh a:Int)).bind fun c=>
 Zl0 Zr c a (Xh a:Int) 0):=by kernel_rfl
noncomputable def ZyA:Fn:=⟨20,[],[(2,[(0,.box [.own Xc 5]),(10,.c (.slice 3)),(11,.c (.int .i64)),(12,.c (.int .i64))])],[0],0,[],[],Tryz.f118,[.box [.own Xc 5],.c (.slice 3)],[],[(38,F38.S),(115,ZxP.S)]⟩
def ZA6:ZyA.S.Ok Tryz.prog 118:=ZyA.ok Tryz.func118 ⟨ZoD,⟨ZsJ,trivial⟩⟩
noncomputable def ZDQ (a b:LL):Option (LL):=ZyA.S.g [.l a,.l b]
noncomputable def Znr (k:Nat) (a b:LL) (c d:Int):Option (LL):=ZyA.lp [2] 0 r0 k [.l a,.l b,.i c,.i d]
def Zjo (k:Nat) (b c:LL) (d a:Int):Znr (k+1) b c d a =
 (if P0 .lss a d then
 Zj c a [.int .i64,.int .i64,.int .i64] fun (e:Int×Int×Int)=>
 (Zu7 b e.1 e.2.1 e.2.2).bind fun f=>
 Znr k f c d (P1 .add .i64 a 1)
 else
 Xa (b)):=by kernel_rfl
def ZwI (b a:LL):ZDQ b a =
 ((g38 b (Xh a:Int)).bind fun c=>
 Znr Zr c a (Xh a:Int) 0):=by kernel_rfl
noncomputable def ZxW:Fn:=⟨20,[],[(2,[(0,.box [.own Xc 5]),(10,.c (.slice 1)),(11,.c (.int .i64)),(12,.c (.int .i64))])],[0],0,[],[],Tryz.f119,[.box [.own Xc 5],.c (.slice 1)],[],[(38,F38.S)]⟩
def Zzm:ZxW.S.Ok Tryz.prog 119:=ZxW.ok Tryz.func119 ⟨ZoD,trivial⟩
noncomputable def Zzj (a b:LL):Option (LL):=ZxW.S.g [.l a,.l b]
noncomputable def Zmo (k:Nat) (a b:LL) (c d:Int):Option (LL):=ZxW.lp [2] 0 r0 k [.l a,.l b,.i c,.i d]
def Zia (k:Nat) (b c:LL) (d a:Int):Zmo (k+1) b c d a =
 (if P0 .lss a d then
 Zj c a [.int .i64] fun (e:Int)=>
 (g38 b e).bind fun f=>
 Zmo k f c d (P1 .add .i64 a 1)
 else
 Xa (b)):=by kernel_rfl
def Zwq (b a:LL):Zzj b a =
 ((g38 b (Xh a:Int)).bind fun c=>
 Zmo Zr c a (Xh a:Int) 0):=by kernel_rfl
noncomputable def ZCn:Fn:=⟨16,[],[],[0],0,[],[],Tryz.f121,[.box [.own Xc 5],.agg [.int .i64,.slice 1,.slice 1]],[],[(38,F38.S),(119,ZxW.S)]⟩
def ZAt:ZCn.S.Ok Tryz.prog 121:=ZCn.ok Tryz.func121 ⟨ZoD,⟨Zzm,trivial⟩⟩
noncomputable def ZBY (a:LL) (b:Int) (c d:LL):Option (LL):=ZCn.S.g [.l a,.i b,.l c,.l d]
def ZwC (a:LL) (b:Int) (c d:LL):ZBY a b c d =
 ((g38 a b).bind fun e=>
 (Zzj e c).bind fun f=>
 (Zzj f d).bind fun g=>
 Xa (g)):=by kernel_rfl
noncomputable def ZrC:Fn:=⟨126,[],[(3,[(0,.box [.own Xc 5]),(3,.box hs30),(20,.c (.slice 15)),(21,.c (.int .i64)),(22,.c (.int .i64))]),(11,[(0,.box [.own Xc 5]),(3,.box hs30),(45,.c (.slice 28)),(46,.c (.int .i64)),(47,.c (.int .i64))]),(17,[(0,.box [.own Xc 5]),(3,.box hs30),(61,.c (.slice 4)),(62,.c (.int .i64)),(63,.c (.int .i64))]),(24,[(0,.box [.own Xc 5]),(3,.box hs30),(82,.c (.slice 2)),(83,.c (.int .i64)),(84,.c (.int .i64))]),(31,[(0,.box [.own Xc 5]),(3,.box hs30),(103,.c (.slice 13)),(104,.c (.int .i64)),(105,.c (.int .i64))])],[0],0,[],[],Tryz.f122,[.box [.own Xc 5],.agg hs30],[],[(38,F38.S),(180,ZxZ.S),(115,ZxP.S),(114,ZBA.S),(118,ZyA.S)]⟩
def Zz3:ZrC.S.Ok Tryz.prog 122:=ZrC.ok Tryz.func122 ⟨ZoD,⟨Zvc,⟨ZsJ,⟨ZCO,⟨ZA6,trivial⟩⟩⟩⟩⟩
noncomputable def ZAn (a b c d e f h:LL):Option (LL):=ZrC.S.g [.l a,.l b,.l c,.l d,.l e,.l f,.l h]
noncomputable def Zjf (k:Nat) (a b c d e f g h:LL) (j m:Int):Option (LL):=ZrC.lp [2,1,2,1,2,1,2,1,2] 0 r0 k [.l a,.l b,.l c,.l d,.l e,.l f,.l g,.l h,.i j,.i m]
def Zik (k:Nat) (c g h i j l d e:LL) (f b:Int):Zjf (k+1) c g h i j l d e f b =
 (if P0 .lss b f then
 Zj e b hs12 fun (a:Qt25)=>
 (g38 c a.1).bind fun m=>
 (g38 m a.2.1).bind fun n=>
 (Zye n a.2.2.1 a.2.2.2.1 (d4 a).1 (d4 a).2.1 (d6 a).1 (d6 a).2.1 (d8 a).1 (d8 a).2.1 (df a).1 (df a).2.1 (dg a)).bind fun o=>
 Zjf k o g h i j l d e f (P1 .add .i64 b 1)
 else
 (ZDQ c d).bind fun a=>
 Xa (a)):=by kernel_rfl
noncomputable def Zh3 (k:Nat) (a b c d e f g h:LL) (j m:Int):Option (LL):=ZrC.lp [2,1,2,1,2,1,2] 0 r0 k [.l a,.l b,.l c,.l d,.l e,.l f,.l g,.l h,.i j,.i m]
def Zib (k:Nat) (d e f g h a i j:LL) (l b:Int):Zh3 (k+1) d e f g h a i j l b =
 (if P0 .lss b l then
 Zj j b [.int .i64,.int .i64] fun (c:Int×Int)=>
 (g38 d c.1).bind fun m=>
 (g38 m c.2).bind fun n=>
 Zh3 k n e f g h a i j l (P1 .add .i64 b 1)
 else
 (g38 d (Xh a:Int)).bind fun c=>
 Zjf Zr c e f g h a i a (Xh a:Int) 0):=by kernel_rfl
noncomputable def Zim (k:Nat) (a b c d e f g h:LL) (j m:Int):Option (LL):=ZrC.lp [2,1,2,1,2] 0 r0 k [.l a,.l b,.l c,.l d,.l e,.l f,.l g,.l h,.i j,.i m]
def ZhS (k:Nat) (d e f g a h i j:LL) (l c:Int):Zim (k+1) d e f g a h i j l c =
 (if P0 .lss c l then
 Zj j c [.int .i64,.int .i64,.int .i64,.int .i64] fun (b:Int×Int×Int×Int)=>
 (g38 d b.1).bind fun m=>
 (Zu7 m b.2.1 b.2.2.1 b.2.2.2).bind fun n=>
 Zim k n e f g a h i j l (P1 .add .i64 c 1)
 else
 (g38 d (Xh a:Int)).bind fun b=>
 Zh3 Zr b e f g a h i a (Xh a:Int) 0):=by kernel_rfl
noncomputable def Zja (k:Nat) (a b c d e f g h:LL) (j m:Int):Option (LL):=ZrC.lp [2,1,2] 0 r0 k [.l a,.l b,.l c,.l d,.l e,.l f,.l g,.l h,.i j,.i m]
def Zi8 (k:Nat) (d e f b g h i j:LL) (l c:Int):Zja (k+1) d e f b g h i j l c =
 (if P0 .lss c l then
 Zj j c hs6 fun (a:Qt10)=>
 (ZD0 d a.1 a.2.1 a.2.2.1 a.2.2.2.1 (d4 a).1 (d4 a).2.1 (d6 a).1 (d6 a).2.1 (d8 a).1 (d8 a).2.1 (df a).1 (df a).2.1 (dg a).1 (dg a).2.1 (dh a).1 (dh a).2.1 (P2 a).1 (P2 a).2.1 (d2 (P2 a)).1 (d2 (P2 a)).2.1 (d4 (P2 a)).1 (d4 (P2 a)).2.1 (d6 (P2 a)).1 (d6 (P2 a)).2.1 (d8 (P2 a)).1 (d8 (P2 a)).2.1 (df (P2 a)).1 (df (P2 a)).2).bind fun m=>
 Zja k m e f b g h i j l (P1 .add .i64 c 1)
 else
 (g38 d (Xh b:Int)).bind fun a=>
 Zim Zr a e f b g h i b (Xh b:Int) 0):=by kernel_rfl
noncomputable def ZiX (k:Nat) (a b c d e f g h:LL) (j m:Int):Option (LL):=ZrC.lp [2] 0 r0 k [.l a,.l b,.l c,.l d,.l e,.l f,.l g,.l h,.i j,.i m]
def Zh1 (k:Nat) (d e b f g h i j:LL) (l c:Int):ZiX (k+1) d e b f g h i j l c =
 (if P0 .lss c l then
 Zj j c hs11 fun (a:Qt21)=>
 (Zye d a.1 a.2.1 a.2.2.1 a.2.2.2.1 (d4 a).1 (d4 a).2.1 (d6 a).1 (d6 a).2.1 (d8 a).1 (d8 a).2.1 (df a).1).bind fun m=>
 (g38 m (df a).2.1).bind fun n=>
 (Zu7 n (dg a).1 (dg a).2.1 (dh a)).bind fun o=>
 ZiX k o e b f g h i j l (P1 .add .i64 c 1)
 else
 (g38 d (Xh b:Int)).bind fun a=>
 Zja Zr a e b f g h i b (Xh b:Int) 0):=by kernel_rfl
def Zxl (b a c d e f g:LL):ZAn b a c d e f g =
 ((g38 b (Xh a:Int)).bind fun h=>
 ZiX Zr h a c d e f g a (Xh a:Int) 0):=by kernel_rfl
noncomputable def ZDS:Fn:=⟨28,[],[],[0],0,[],[],Tryz.f120,[.box [.own Xc 5],.agg hs7],[],[(38,F38.S),(121,ZCn.S),(122,ZrC.S),(116,ZAU.S)]⟩
def ZHj:ZDS.S.Ok Tryz.prog 120:=ZDS.ok Tryz.func120 ⟨ZoD,⟨ZAt,⟨Zz3,⟨ZzD,trivial⟩⟩⟩⟩
noncomputable def ZGP (a:LL) (c d:Int) (e f h j k m n o:LL) (p:Bool) (q:Int) (r s t u v w x y:LL):Option (LL):=ZDS.S.g [.l a,.i c,.i d,.l e,.l f,.l h,.l j,.l k,.l m,.l n,.l o,.b p,.i q,.l r,.l s,.l t,.l u,.l v,.l w,.l x,.l y]
def ZxE (a:LL) (b c:Int) (d e f g h i j k:LL) (l:Bool) (m:Int) (n o p q r s t u:LL):ZGP a b c d e f g h i j k l m n o p q r s t u =
 ((g38 a b).bind fun v=>
 (ZBY v c d e).bind fun w=>
 (ZAn w f g h i j k).bind fun x=>
 (ZDp x l).bind fun y=>
 (ZBY y m n o).bind fun z=>
 (ZAn z p q r s t u).bind fun A=>
 Xa (A)):=by kernel_rfl
noncomputable def ZzF:Fn:=⟨25,[],[(2,[(0,.box [.own Xc 5]),(10,.c (.slice 2)),(11,.c (.int .i64)),(12,.c (.int .i64))])],[0],0,[],[],Tryz.f123,[.box [.own Xc 5],.c (.slice 2)],[],[(38,F38.S)]⟩
def ZF1:ZzF.S.Ok Tryz.prog 123:=ZzF.ok Tryz.func123 ⟨ZoD,trivial⟩
noncomputable def ZHB (a b:LL):Option (LL):=ZzF.S.g [.l a,.l b]
noncomputable def Zmj (k:Nat) (a b:LL) (c d:Int):Option (LL):=ZzF.lp [2] 0 r0 k [.l a,.l b,.i c,.i d]
def Zjd (k:Nat) (b c:LL) (d a:Int):Zmj (k+1) b c d a =
 (if P0 .lss a d then
 Zj c a [.int .i64,.int .i64] fun (e:Int×Int)=>
 (g38 b e.1).bind fun f=>
 (g38 f e.2).bind fun g=>
 Zmj k g c d (P1 .add .i64 a 1)
 else
 Xa (b)):=by kernel_rfl
def Zu6 (b a:LL):ZHB b a =
 ((g38 b (Xh a:Int)).bind fun c=>
 Zmj Zr c a (Xh a:Int) 0):=by kernel_rfl
noncomputable def F39:Fn:=⟨97,[],[],[0],0,[],[],Tryz.f39,[.box [.own Xc 5],.agg hs0,.c (.int .i64)],[],[(38,F38.S),(114,ZBA.S),(115,ZxP.S),(116,ZAU.S),(117,ZCy.S),(118,ZyA.S),(119,ZxW.S),(120,ZDS.S),(121,ZCn.S),(122,ZrC.S),(123,ZzF.S)]⟩
def ZLl:F39.S.Ok Tryz.prog 39:=F39.ok Tryz.func39 ⟨ZoD,⟨ZCO,⟨ZsJ,⟨ZzD,⟨ZFJ,⟨ZA6,⟨Zzm,⟨ZHj,⟨ZAt,⟨Zz3,⟨ZF1,trivial⟩⟩⟩⟩⟩⟩⟩⟩⟩⟩⟩
noncomputable def g39 (a:LL) (c d e f h j k m n o p:Int) (q:Bool) (r s t u v w x y z A C D E G H J K L M N:Int) (O:LL) (P Q R T U V:Int) (W:Bool) (X Y Z aa:LL) (ab ac:Int) (ad ae af ag ah ai aj ak:LL) (al am:Int) (an ao ap aq ar aZ au av:LL) (aw:Bool) (ax:Int) (ay az a0 a1 a2 a3 a4 a5:LL) (a6:Int):Option (LL):=F39.S.g [.l a,.i c,.i d,.i e,.i f,.i h,.i j,.i k,.i m,.i n,.i o,.i p,.b q,.i r,.i s,.i t,.i u,.i v,.i w,.i x,.i y,.i z,.i A,.i C,.i D,.i E,.i G,.i H,.i J,.i K,.i L,.i M,.i N,.l O,.i P,.i Q,.i R,.i T,.i U,.i V,.b W,.l X,.l Y,.l Z,.l aa,.i ab,.i ac,.l ad,.l ae,.l af,.l ag,.l ah,.l ai,.l aj,.l ak,.i al,.i am,.l an,.l ao,.l ap,.l aq,.l ar,.l aZ,.l au,.l av,.b aw,.i ax,.l ay,.l az,.l a0,.l a1,.l a2,.l a3,.l a4,.l a5,.i a6]
def Vp (b:LL) (x1 x2 x3 x4 d e f g h i j:Int) (k:Bool) (l m n o p q r s t u v w x y z A C D E G:Int) (H:LL) (J K L M N O:Int) (P:Bool) (Q R T U:LL) (V W:Int) (X Y Z S ab ac ad ae:LL) (af ag:Int) (ah ai aj ak al am an ao:LL) (ap:Bool) (aq:Int) (ar aZ au av aw ax ay az:LL) (c:Int):g39 b x1 x2 x3 x4 d e f g h i j k l m n o p q r s t u v w x y z A C D E G H J K L M N O P Q R T U V W X Y Z S ab ac ad ae af ag ah ai aj ak al am an ao ap aq ar aZ au av aw ax ay az c =
 (if P0 .eql c 0 then
 (g38 b e).bind fun a=>
 Xa (a)
 else
 if P0 .eql c 1 then
 (ZD0 b l m n o p q r s t u v w x y z A C D E G H J K L M N O P).bind fun a=>
 Xa (a)
 else
 if P0 .eql c 2 then
 (Zu7 b g h i).bind fun a=>
 Xa (a)
 else
 if P0 .eql c 3 then
 (g38 b j).bind fun a=>
 Xa (a)
 else
 if P0 .eql c 4 then
 (ZDp b k).bind fun a=>
 Xa (a)
 else
 if P0 .eql c 5 then
 (ZHq b R).bind fun a=>
 Xa (a)
 else
 if P0 .eql c 6 then
 (g38 b f).bind fun a=>
 Xa (a)
 else
 if P0 .eql c 7 then
 (ZDQ b Q).bind fun a=>
 Xa (a)
 else
 if P0 .eql c 8 then
 (g38 b d).bind fun a=>
 Xa (a)
 else
 if P0 .eql c 9 then
 (Zzj b T).bind fun a=>
 Xa (a)
 else
 if P0 .eql c 10 then
 (ZGP b af ag ah ai aj ak al am an ao ap aq ar aZ au av aw ax ay az).bind fun a=>
 Xa (a)
 else
 if P0 .eql c 11 then
 (g38 b V).bind fun a=>
 Xa (a)
 else
 if P0 .eql c 12 then
 (ZBY b W X Y).bind fun a=>
 Xa (a)
 else
 if P0 .eql c 13 then
 (ZAn b Z S ab ac ad ae).bind fun a=>
 Xa (a)
 else
 if P0 .eql c 14 then
 (ZHB b U).bind fun a=>
 Xa (a)
 else
 Xa (b)):=by kernel_rfl
noncomputable def F14:Fn:=⟨55,[2,3],[(5,[(1,.box hs0),(4,.ptr 15 0),(24,.c (.slice 1)),(25,.c (.int .i64)),(26,.c (.int .i64)),(15,.box [.own Xc 5])]),(11,[(1,.box hs0),(4,.ptr 15 0),(40,.c (.slice 1)),(41,.c (.int .i64)),(42,.c (.int .i64)),(15,.box [.own Xc 5])])],[],0,[],[],Tryz.f14,[.agg hs0],[.c (.own Xc 5),.c (.int .i64)],[(12,F12.S),(38,F38.S),(32,F32.S),(39,F39.S)]⟩
def ZIB:F14.S.Ok Tryz.prog 14:=F14.ok Tryz.func14 ⟨ZJq,⟨ZoD,⟨ZF3,⟨ZLl,trivial⟩⟩⟩⟩
noncomputable def g14 (a c d e f h j k m n o:Int) (p:Bool) (q r s t u v w x y z A C D E G H J K L M:Int) (N:LL) (O P Q R T U:Int) (V:Bool) (W X Y Z:LL) (aa ab:Int) (ac ad ae af ag ah ai aj:LL) (ak al:Int) (am an ao ap aq ar aZ au:LL) (av:Bool) (aw:Int) (ax ay az a0 a1 a2 a3 a4:LL):Option (LL×Int):=F14.S.g [.i a,.i c,.i d,.i e,.i f,.i h,.i j,.i k,.i m,.i n,.i o,.b p,.i q,.i r,.i s,.i t,.i u,.i v,.i w,.i x,.i y,.i z,.i A,.i C,.i D,.i E,.i G,.i H,.i J,.i K,.i L,.i M,.l N,.i O,.i P,.i Q,.i R,.i T,.i U,.b V,.l W,.l X,.l Y,.l Z,.i aa,.i ab,.l ac,.l ad,.l ae,.l af,.l ag,.l ah,.l ai,.l aj,.i ak,.i al,.l am,.l an,.l ao,.l ap,.l aq,.l ar,.l aZ,.l au,.b av,.i aw,.l ax,.l ay,.l az,.l a0,.l a1,.l a2,.l a3,.l a4]
noncomputable def Zoq (k:Nat) (a c d e f g h j m n o:Int) (p:Bool) (q r s t u v w x y z A C D E G H J K L M:Int) (N:LL) (O P Q R T U:Int) (V:Bool) (W X Y Z:LL) (S ab:Int) (ac ad ae af ag ah ai aj:LL) (ak al:Int) (am an ao ap aq ar aZ au:LL) (av:Bool) (aw:Int) (ax ay az a0 a1 a2 a3 a4 a5:LL) (a6 a7:Int) (a8:LL):Option (LL×Int):=F14.lp [0,1,0,1,2] 0 r0 k [.i a,.i c,.i d,.i e,.i f,.i g,.i h,.i j,.i m,.i n,.i o,.b p,.i q,.i r,.i s,.i t,.i u,.i v,.i w,.i x,.i y,.i z,.i A,.i C,.i D,.i E,.i G,.i H,.i J,.i K,.i L,.i M,.l N,.i O,.i P,.i Q,.i R,.i T,.i U,.b V,.l W,.l X,.l Y,.l Z,.i S,.i ab,.l ac,.l ad,.l ae,.l af,.l ag,.l ah,.l ai,.l aj,.i ak,.i al,.l am,.l an,.l ao,.l ap,.l aq,.l ar,.l aZ,.l au,.b av,.i aw,.l ax,.l ay,.l az,.l a0,.l a1,.l a2,.l a3,.l a4,.l a5,.i a6,.i a7,.l a8]
def Zmx (k:Nat) (b c d e f g h i j l m:Int) (n:Bool) (o p q r s t u v w x y z A C D E G H J K:Int) (L:LL) (M N O P Q R:Int) (T:Bool) (U V W X:LL) (Y Z:Int) (S ab ac ad ae af ag ah:LL) (ai aj:Int) (ak al am an ao ap aq ar:LL) (aZ:Bool) (au:Int) (av aw ax ay az a0 a1 a2 a3:LL) (a4 a:Int) (a5:LL):Zoq (k+1) b c d e f g h i j l m n o p q r s t u v w x y z A C D E G H J K L M N O P Q R T U V W X Y Z S ab ac ad ae af ag ah ai aj ak al am an ao ap aq ar aZ au av aw ax ay az a0 a1 a2 a3 a4 a a5 =
 (if P0 .lss a a4 then
 Zj a3 a [.int .i64] fun (a6:Int)=>
 (g39 a5 b c d e f g h i j l m n o p q r s t u v w x y z A C D E G H J K L M N O P Q R T U V W X Y Z S ab ac ad ae af ag ah ai aj ak al am an ao ap aq ar aZ au av aw ax ay az a0 a1 a2 a6).bind fun a7=>
 Zoq k b c d e f g h i j l m n o p q r s t u v w x y z A C D E G H J K L M N O P Q R T U V W X Y Z S ab ac ad ae af ag ah ai aj ak al am an ao ap aq ar aZ au av aw ax ay az a0 a1 a2 a3 a4 (P1 .add .i64 a 1) a7
 else
 Xa (a5,0)):=by kernel_rfl
noncomputable def Ztf (k:Nat) (a c d e f g h j m n o:Int) (p:Bool) (q r s t u v w x y z A C D E G H J K L M:Int) (N:LL) (O P Q R T U:Int) (V:Bool) (W X Y Z:LL) (S ab:Int) (ac ad ae af ag ah ai aj:LL) (ak al:Int) (am an ao ap aq ar aZ au:LL) (av:Bool) (aw:Int) (ax ay az a0 a1 a2 a3 a4 a5:LL) (a6 a7:Int) (a8:LL):Option (LL×Int):=F14.lp [0,1,0] 0 r0 k [.i a,.i c,.i d,.i e,.i f,.i g,.i h,.i j,.i m,.i n,.i o,.b p,.i q,.i r,.i s,.i t,.i u,.i v,.i w,.i x,.i y,.i z,.i A,.i C,.i D,.i E,.i G,.i H,.i J,.i K,.i L,.i M,.l N,.i O,.i P,.i Q,.i R,.i T,.i U,.b V,.l W,.l X,.l Y,.l Z,.i S,.i ab,.l ac,.l ad,.l ae,.l af,.l ag,.l ah,.l ai,.l aj,.i ak,.i al,.l am,.l an,.l ao,.l ap,.l aq,.l ar,.l aZ,.l au,.b av,.i aw,.l ax,.l ay,.l az,.l a0,.l a1,.l a2,.l a3,.l a4,.l a5,.i a6,.i a7,.l a8]
def Zmn (k:Nat) (a d e f g h i j l m n:Int) (o:Bool) (p q r s t u v w x y z A C D E G H J K L:Int) (M:LL) (N O P Q R T:Int) (U:Bool) (V W X Y:LL) (Z S:Int) (ab ac ad ae af ag ah ai:LL) (aj ak:Int) (al am an ao ap aq ar aZ:LL) (au:Bool) (av:Int) (aw ax ay az a0 a1 a2 a3 a4:LL) (a5 b:Int) (a6:LL):Ztf (k+1) a d e f g h i j l m n o p q r s t u v w x y z A C D E G H J K L M N O P Q R T U V W X Y Z S ab ac ad ae af ag ah ai aj ak al am an ao ap aq ar aZ au av aw ax ay az a0 a1 a2 a3 a4 a5 b a6 =
 (if P0 .lss b a5 then
 Zj a4 b [.int .i64] fun (c:Int)=>
 (g38 a6 c).bind fun a7=>
 Ztf k a d e f g h i j l m n o p q r s t u v w x y z A C D E G H J K L M N O P Q R T U V W X Y Z S ab ac ad ae af ag ah ai aj ak al am an ao ap aq ar aZ au av aw ax ay az a0 a1 a2 a3 a4 a5 (P1 .add .i64 b 1) a7
 else
 (g32 a).bind fun c=>
 Zoq Zr a d e f g h i j l m n o p q r s t u v w x y z A C D E G H J K L M N O P Q R T U V W X Y Z S ab ac ad ae af ag ah ai aj ak al am an ao ap aq ar aZ au av aw ax ay az a0 a1 a2 a3 c.1 (Xh c.1:Int) 0 a6):=by kernel_rfl
def ZBb (a b c d e f g h i j k:Int) (l:Bool) (m n o p q r s t u v w x y z A C D E G H:Int) (J:LL) (K L M N O P:Int) (Q:Bool) (R T U V:LL) (W X:Int) (Y Z S ab ac ad ae af:LL) (ag ah:Int) (ai aj ak al am an ao ap:LL) (aq:Bool) (ar:Int) (aZ au av aw ax ay az a0:LL):g14 a b c d e f g h i j k l m n o p q r s t u v w x y z A C D E G H J K L M N O P Q R T U V W X Y Z S ab ac ad ae af ag ah ai aj ak al am an ao ap aq ar aZ au av aw ax ay az a0 =
 ((g12 a b c d e f g h i j k l m n o p q r s t u v w x y z A C D E G H J K L M N O P Q R T U V W X Y Z S ab ac ad ae af ag ah ai aj ak al am an ao ap aq ar aZ au av aw ax ay az a0).bind fun a1=>
 if (!a1) then
 Xa (E0,1)
 else
 Ztf Zr a b c d e f g h i j k l m n o p q r s t u v w x y z A C D E G H J K L M N O P Q R T U V W X Y Z S ab ac ad ae af ag ah ai aj ak al am an ao ap aq ar aZ au av aw ax ay az a0 ((((E0++[[I a]])++[[I b]])++[[I c]])++[[I d]]) (Xh ((((E0++[[I a]])++[[I b]])++[[I c]])++[[I d]]):Int) 0 E0):=by kernel_rfl
noncomputable def ZwE:Fn:=⟨21,[4],[(1,[(0,.c (.own Xb 5)),(1,.c (.int .i64))])],[],0,[4,13,20],[],Tryz.f124,[.c (.own Xb 5),.c (.int .i64)],[.c (.own Xb 5)],[]⟩
def Zwc:ZwE.S.Ok Tryz.prog 124:=ZwE.ok Tryz.func124
noncomputable def Zv3 (a:LL) (b:Int):Option (LL):=ZwE.S.g [.l a,.i b]
noncomputable def Zix (k:Nat) (a:LL) (b:Int):Option (LL):=ZwE.lp [0] 0 r0 k [.l a,.i b]
def Zh4 (k:Nat) (b:LL) (a:Int):Zix (k+1) b a =
 (if P0 .geq a 128 then
 Zy ((128:Int)≠0)<|
 Zy (Z6 b (E0++[[AV.val (.int .u8 (Xi .u8 (P1 .add .i64 (P1 .rem .i64 a 128) 128)))]]) 1)<|
 Zy ((128:Int)≠0)<|
 Zix k (b++(E0++[[AV.val (.int .u8 (Xi .u8 (P1 .add .i64 (P1 .rem .i64 a 128) 128)))]])) (P1 .quo .i64 a 128)
 else
 Zy (Z6 b (E0++[[AV.val (.int .u8 (Xi .u8 a))]]) 1)<|
 Xa ((b++(E0++[[AV.val (.int .u8 (Xi .u8 a))]])))):=by kernel_rfl
def ZwT (a:LL) (b:Int):Zv3 a b =
 (Zix Zr a b):=by kernel_rfl
noncomputable def F40:Fn:=⟨8,[4],[],[],0,[4],[],Tryz.f40,[.c (.own Xb 5),.c (.int .i64)],[.c (.own Xb 5)],[(124,ZwE.S)]⟩
def ZtC:F40.S.Ok Tryz.prog 40:=F40.ok Tryz.func40 ⟨Zwc,trivial⟩
noncomputable def g40 (a:LL) (b:Int):Option (LL):=F40.S.g [.l a,.i b]
def ZBE (a:LL) (b:Int):g40 a b =
 ((Zv3 a b).bind fun c=>
 Xa (c)):=by kernel_rfl
noncomputable def F43:Fn:=⟨15,[4],[],[],0,[4],[],Tryz.f43,[.c (.own Xb 5),.agg [.int .i64,.int .i64,.int .i64]],[.c (.own Xb 5)],[(124,ZwE.S)]⟩
def ZzT:F43.S.Ok Tryz.prog 43:=F43.ok Tryz.func43 ⟨Zwc,trivial⟩
noncomputable def g43 (a:LL) (b c d:Int):Option (LL):=F43.S.g [.l a,.i b,.i c,.i d]
def ZtP (a:LL) (b c d:Int):g43 a b c d =
 ((Zv3 a b).bind fun e=>
 (Zv3 e c).bind fun f=>
 (Zv3 f d).bind fun g=>
 Xa (g)):=by kernel_rfl
noncomputable def Zz5:Fn:=⟨29,[4],[(4,[(0,.c (.own Xb 5)),(5,.c (.int .u64))])],[],0,[4,21,28],[],Tryz.f182,[.c (.own Xb 5),.c (.int .i64)],[.c (.own Xb 5)],[]⟩
def ZGs:Zz5.S.Ok Tryz.prog 182:=Zz5.ok Tryz.func182
noncomputable def ZHO (a:LL) (b:Int):Option (LL):=Zz5.S.g [.l a,.i b]
noncomputable def ZfE (k:Nat) (a:LL) (b:Int):Option (LL):=Zz5.lp [2,0] 0 r0 k [.l a,.i b]
def ZiP (k:Nat) (b:LL) (a:Int):ZfE (k+1) b a =
 (if P0 .geq a 128 then
 Zy ((128:Int)≠0)<|
 Zy (Z6 b (E0++[[AV.val (.int .u8 (Xi .u8 (P1 .add .u64 (P1 .rem .u64 a 128) 128)))]]) 1)<|
 Zy ((128:Int)≠0)<|
 ZfE k (b++(E0++[[AV.val (.int .u8 (Xi .u8 (P1 .add .u64 (P1 .rem .u64 a 128) 128)))]])) (P1 .quo .u64 a 128)
 else
 Zy (Z6 b (E0++[[AV.val (.int .u8 (Xi .u8 a))]]) 1)<|
 Xa ((b++(E0++[[AV.val (.int .u8 (Xi .u8 a))]])))):=by kernel_rfl
def Zwu (b:LL) (a:Int):ZHO b a =
 (Zy ((0:Int)≤1)<|
 if P0 .lss a 0 then
 ZfE Zr b (P1 .xor .u64 18446744073709551615 (P1 .shl .u64 (Xi .u64 a) 1))
 else
 ZfE Zr b (P1 .shl .u64 (Xi .u64 a) 1)):=by kernel_rfl
noncomputable def ZBQ:Fn:=⟨45,[4],[(3,[(0,.c (.own Xb 5)),(5,.c (.own Xb 3)),(6,.c (.int .i64))])],[],0,[4,31],[],Tryz.f125,[.c (.own Xb 5),.agg hs13],[.c (.own Xb 5)],[(182,Zz5.S)]⟩
def ZEv:ZBQ.S.Ok Tryz.prog 125:=ZBQ.ok Tryz.func125 ⟨ZGs,trivial⟩
noncomputable def ZGR (a:LL) (b c d e f h j k m n o p:Int):Option (LL):=ZBQ.S.g [.l a,.i b,.i c,.i d,.i e,.i f,.i h,.i j,.i k,.i m,.i n,.i o,.i p]
noncomputable def ZiD (k:Nat) (a b:LL) (c:Int):Option (LL):=ZBQ.lp [0] 0 r0 k [.l a,.l b,.i c]
def Zh2 (k:Nat) (c b:LL) (a:Int):ZiD (k+1) c b a =
 (if P0 .lss a (Xh b:Int) then
 Zy ((0:Int)≤a)<|
 Zy ((a:Int) < (Xh b:Int))<|
 Zj b a [.int .i64] fun (d:Int)=>
 (ZHO c d).bind fun e=>
 ZiD k e b (P1 .add .i64 a 1)
 else
 Xa (c)):=by kernel_rfl
def Zw4 (a:LL) (b c d e f g h i j k l m:Int):ZGR a b c d e f g h i j k l m =
 (ZiD Zr a ((((((((((((E0++[[I b]])++[[I c]])++[[I d]])++[[I e]])++[[I f]])++[[I g]])++[[I h]])++[[I i]])++[[I j]])++[[I k]])++[[I l]])++[[I m]]) 0):=by kernel_rfl
noncomputable def ZzR:Fn:=⟨47,[2,3],[(8,[(1,.box hs27),(5,.c (.own Xb 5)),(6,.c (.int .i64))])],[],0,[2,30,45],[],Tryz.f183,[.agg hs27],[.c (.own Xb 5),.c (.int .i64)],[(130,ZtM.S)]⟩
def ZGd:ZzR.S.Ok Tryz.prog 183:=ZzR.ok Tryz.func183 ⟨Zpg,trivial⟩
noncomputable def ZE8 (a c d e f h:Int) (j:Bool):Option (LL×Int):=ZzR.S.g [.i a,.i c,.i d,.i e,.i f,.i h,.b j]
noncomputable def ZiJ (k:Nat) (a c d e f g:Int) (h:Bool) (j:LL) (m:Int):Option (LL×Int):=ZzR.lp [0,1,0,0] 0 r0 k [.i a,.i c,.i d,.i e,.i f,.i g,.b h,.l j,.i m]
def VU (k:Nat) (d b e f g h:Int) (i:Bool) (c:LL) (a:Int):ZiJ (k+1) d b e f g h i c a =
 (if P0 .lss a 5 then
 Zy ((0:Int)≤(Xi .u64 (P1 .mul .i64 8 a)))<|
 Zy (Z6 c (E0++[[AV.val (.int .u8 (Xi .u8 (P1 .and .i64 (P1 .shr .i64 b (Xi .u64 (P1 .mul .i64 8 a))) 255)))]]) 1)<|
 ZiJ k d b e f g h i (c++(E0++[[AV.val (.int .u8 (Xi .u8 (P1 .and .i64 (P1 .shr .i64 b (Xi .u64 (P1 .mul .i64 8 a))) 255)))]])) (P1 .add .i64 a 1)
 else
 Xa (c,0)):=by kernel_rfl
def ZvN (a g b c d e:Int) (f:Bool):ZE8 a g b c d e f =
 ((ZxA a g b c d e f).bind fun h=>
 if (!h) then
 Xa (E0,1)
 else
 if f then
 ZiJ Zr a g b c d e f (((((E0++[[AV.val (.int .u8 (Xi .u8 a))]])++[[AV.val (.int .u8 (Xi .u8 b))]])++[[AV.val (.int .u8 (Xi .u8 (P1 .add .i64 c 8)))]])++[[AV.val (.int .u8 (Xi .u8 d))]])++[[AV.val (.int .u8 (Xi .u8 e))]]) 0
 else
 ZiJ Zr a g b c d e f (((((E0++[[AV.val (.int .u8 (Xi .u8 a))]])++[[AV.val (.int .u8 (Xi .u8 b))]])++[[AV.val (.int .u8 (Xi .u8 c))]])++[[AV.val (.int .u8 (Xi .u8 d))]])++[[AV.val (.int .u8 (Xi .u8 e))]]) 0):=by kernel_rfl
noncomputable def Zx2:Fn:=⟨41,[2,3],[(5,[(1,.box hs16),(4,.c (.own Xb 5)),(5,.c (.int .i64))])],[],0,[2,40],[(9,[(6,0)])],Tryz.f126,[.agg hs16],[.c (.own Xb 5),.c (.int .i64)],[(61,F61.S),(43,F43.S),(124,ZwE.S),(183,ZzR.S)]⟩
def Zy2:Zx2.S.Ok Tryz.prog 126:=Zx2.ok Tryz.func126 ⟨ZxY,⟨ZzT,⟨Zwc,⟨ZGd,trivial⟩⟩⟩⟩
noncomputable def Zx1 (a c d:Int) (e:LL) (f h j k m n:Int) (o:Bool):Option (LL×Int):=Zx2.S.g [.i a,.i c,.i d,.l e,.i f,.i h,.i j,.i k,.i m,.i n,.b o]
noncomputable def Zm5 (k:Nat) (a c d:Int) (e:LL) (f g h j m n:Int) (o:Bool) (p:LL) (q:Int):Option (LL×Int):=Zx2.lp [0,1,3] 0 r0 k [.i a,.i c,.i d,.l e,.i f,.i g,.i h,.i j,.i m,.i n,.b o,.l p,.i q]
def Zir (k:Nat) (m n o:Int) (b:LL) (e f g h i j:Int) (l:Bool) (c:LL) (d:Int):Zm5 (k+1) m n o b e f g h i j l c d =
 (if P0 .lss d (Xh b:Int) then
 Zj b d [.int .i64,.int .i64,.int .i64] fun (a:Int×Int×Int)=>
 (g43 c a.1 a.2.1 a.2.2).bind fun p=>
 Zm5 k m n o b e f g h i j l p (P1 .add .i64 d 1)
 else
 (ZE8 e f g h i j l).bind fun a=>
 Zy (Z6 c a.1 1)<|
 Xa ((c++a.1),0)):=by kernel_rfl
def Zxm (a b c:Int) (d:LL) (e f g h i j:Int) (k:Bool):Zx1 a b c d e f g h i j k =
 ((g61 a b c d e f g h i j k).bind fun l=>
 if (!l) then
 Xa (E0,1)
 else
 (g43 E0 a b c).bind fun m=>
 (Zv3 m (Xh d:Int)).bind fun n=>
 Zm5 Zr a b c d e f g h i j k n 0):=by kernel_rfl
noncomputable def F49:Fn:=⟨18,[4],[],[],0,[4,17],[(2,[(5,0)])],Tryz.f49,[.c (.own Xb 5),.agg hs16],[.c (.own Xb 5)],[(126,Zx2.S),(40,F40.S)]⟩
def ZH4:F49.S.Ok Tryz.prog 49:=F49.ok Tryz.func49 ⟨Zy2,⟨ZtC,trivial⟩⟩
noncomputable def g49 (a:LL) (c d e:Int) (f:LL) (h j k m n o:Int) (p:Bool):Option (LL):=F49.S.g [.l a,.i c,.i d,.i e,.l f,.i h,.i j,.i k,.i m,.i n,.i o,.b p]
def ZCc (b:LL) (c d e:Int) (f:LL) (g h i j k l:Int) (m:Bool):g49 b c d e f g h i j k l m =
 ((Zx1 c d e f g h i j k l m).bind fun a=>
 (g40 b (Xh a.1:Int)).bind fun n=>
 Zy (Z6 n a.1 1)<|
 Xa ((n++a.1))):=by kernel_rfl
noncomputable def F41:Fn:=⟨22,[4],[],[],0,[4],[],Tryz.f41,[.c (.own Xb 5),.agg hs6],[.c (.own Xb 5)],[(43,F43.S),(125,ZBQ.S),(40,F40.S),(49,F49.S)]⟩
def ZIr:F41.S.Ok Tryz.prog 41:=F41.ok Tryz.func41 ⟨ZzT,⟨ZEv,⟨ZtC,⟨ZH4,trivial⟩⟩⟩⟩
noncomputable def g41 (a:LL) (c d e f h j k m n o p q r s t u v w x y:Int) (z:LL) (A C D E G H:Int) (J:Bool):Option (LL):=F41.S.g [.l a,.i c,.i d,.i e,.i f,.i h,.i j,.i k,.i m,.i n,.i o,.i p,.i q,.i r,.i s,.i t,.i u,.i v,.i w,.i x,.i y,.l z,.i A,.i C,.i D,.i E,.i G,.i H,.b J]
def ZAZ (a:LL) (b c d e f g h i j k l m n o p q r s t u:Int) (v:LL) (w x y z A C:Int) (D:Bool):g41 a b c d e f g h i j k l m n o p q r s t u v w x y z A C D =
 ((g43 a b c d).bind fun E=>
 (ZGR E e f g h i j k l m n o p).bind fun G=>
 (g40 G q).bind fun H=>
 (g40 H r).bind fun J=>
 (g49 J s t u v w x y z A C D).bind fun K=>
 Xa (K)):=by kernel_rfl
noncomputable def F42:Fn:=⟨10,[4],[],[],0,[4],[],Tryz.f42,[.c (.own Xb 5),.c (.bool)],[.c (.own Xb 5)],[(40,F40.S)]⟩
def ZJg:F42.S.Ok Tryz.prog 42:=F42.ok Tryz.func42 ⟨ZtC,trivial⟩
noncomputable def g42 (a:LL) (c:Bool):Option (LL):=F42.S.g [.l a,.b c]
def ZzP (a:LL) (c:Bool):g42 a c =
 (if c then
 (g40 a 1).bind fun b=>
 Xa (b)
 else
 (g40 a 0).bind fun b=>
 Xa (b)):=by kernel_rfl
noncomputable def F44:Fn:=⟨23,[4],[(3,[(0,.c (.own Xb 5)),(1,.c (.slice 3)),(5,.c (.int .i64))])],[],0,[4],[],Tryz.f44,[.c (.own Xb 5),.c (.slice 3)],[.c (.own Xb 5)],[(40,F40.S),(43,F43.S)]⟩
def ZJi:F44.S.Ok Tryz.prog 44:=F44.ok Tryz.func44 ⟨ZtC,⟨ZzT,trivial⟩⟩
noncomputable def g44 (a b:LL):Option (LL):=F44.S.g [.l a,.l b]
noncomputable def Ztw (k:Nat) (a b:LL) (c:Int):Option (LL):=F44.lp [2] 0 r0 k [.l a,.l b,.i c]
def ZmR (k:Nat) (c a:LL) (b:Int):Ztw (k+1) c a b =
 (if P0 .lss b (Xh a:Int) then
 Zj a b [.int .i64,.int .i64,.int .i64] fun (d:Int×Int×Int)=>
 (g43 c d.1 d.2.1 d.2.2).bind fun e=>
 Ztw k e a (P1 .add .i64 b 1)
 else
 Xa (c)):=by kernel_rfl
def ZBw (b a:LL):g44 b a =
 ((g40 b (Xh a:Int)).bind fun c=>
 Ztw Zr c a 0):=by kernel_rfl
noncomputable def F45:Fn:=⟨23,[4],[(3,[(0,.c (.own Xb 5)),(1,.c (.slice 1)),(5,.c (.int .i64))])],[],0,[4],[],Tryz.f45,[.c (.own Xb 5),.c (.slice 1)],[.c (.own Xb 5)],[(40,F40.S)]⟩
def ZI1:F45.S.Ok Tryz.prog 45:=F45.ok Tryz.func45 ⟨ZtC,trivial⟩
noncomputable def g45 (a b:LL):Option (LL):=F45.S.g [.l a,.l b]
noncomputable def Ztg (k:Nat) (a b:LL) (c:Int):Option (LL):=F45.lp [2] 0 r0 k [.l a,.l b,.i c]
def Zmu (k:Nat) (c a:LL) (b:Int):Ztg (k+1) c a b =
 (if P0 .lss b (Xh a:Int) then
 Zj a b [.int .i64] fun (d:Int)=>
 (g40 c d).bind fun e=>
 Ztg k e a (P1 .add .i64 b 1)
 else
 Xa (c)):=by kernel_rfl
def ZBc (b a:LL):g45 b a =
 ((g40 b (Xh a:Int)).bind fun c=>
 Ztg Zr c a 0):=by kernel_rfl
noncomputable def F48:Fn:=⟨15,[4],[],[],0,[4],[],Tryz.f48,[.c (.own Xb 5),.agg [.int .i64,.slice 1,.slice 1]],[.c (.own Xb 5)],[(40,F40.S),(45,F45.S)]⟩
def ZIt:F48.S.Ok Tryz.prog 48:=F48.ok Tryz.func48 ⟨ZtC,⟨ZI1,trivial⟩⟩
noncomputable def g48 (a:LL) (b:Int) (c d:LL):Option (LL):=F48.S.g [.l a,.i b,.l c,.l d]
def ZAo (a:LL) (b:Int) (c d:LL):g48 a b c d =
 ((g40 a b).bind fun e=>
 (g45 e c).bind fun f=>
 (g45 f d).bind fun g=>
 Xa (g)):=by kernel_rfl
noncomputable def F47:Fn:=⟨155,[4],[(3,[(0,.c (.own Xb 5)),(3,.box hs30),(5,.c (.int .i64))]),(8,[(0,.c (.own Xb 5)),(3,.box hs30),(6,.c (.int .i64))]),(13,[(0,.c (.own Xb 5)),(3,.box hs30),(7,.c (.int .i64))]),(18,[(0,.c (.own Xb 5)),(3,.box hs30),(8,.c (.int .i64))]),(23,[(0,.c (.own Xb 5)),(3,.box hs30),(9,.c (.int .i64))])],[],0,[4],[],Tryz.f47,[.c (.own Xb 5),.agg hs30],[.c (.own Xb 5)],[(40,F40.S),(49,F49.S),(43,F43.S),(41,F41.S),(44,F44.S)]⟩
def ZIV:F47.S.Ok Tryz.prog 47:=F47.ok Tryz.func47 ⟨ZtC,⟨ZH4,⟨ZzT,⟨ZIr,⟨ZJi,trivial⟩⟩⟩⟩⟩
noncomputable def g47 (a b c d e f h:LL):Option (LL):=F47.S.g [.l a,.l b,.l c,.l d,.l e,.l f,.l h]
noncomputable def Zqg (k:Nat) (a b c d e f g:LL) (h:Int):Option (LL):=F47.lp [2,1,2,1,2,1,2,1,2] 0 r0 k [.l a,.l b,.l c,.l d,.l e,.l f,.l g,.i h]
def ZmD (k:Nat) (d g h i j b e:LL) (c:Int):Zqg (k+1) d g h i j b e c =
 (if P0 .lss c (Xh b:Int) then
 Zj b c hs12 fun (f:Qt25)=>
 (g40 d f.1).bind fun l=>
 Zj b c hs12 fun (m:Qt25)=>
 (g40 l m.2.1).bind fun n=>
 Zj b c hs12 fun (a:Qt25)=>
 (g49 n a.2.2.1 a.2.2.2.1 (d4 a).1 (d4 a).2.1 (d6 a).1 (d6 a).2.1 (d8 a).1 (d8 a).2.1 (df a).1 (df a).2.1 (dg a)).bind fun o=>
 Zqg k o g h i j b e (P1 .add .i64 c 1)
 else
 (g44 d e).bind fun f=>
 Xa (f)):=by kernel_rfl
noncomputable def Zqf (k:Nat) (a b c d e f g:LL) (h:Int):Option (LL):=F47.lp [2,1,2,1,2,1,2] 0 r0 k [.l a,.l b,.l c,.l d,.l e,.l f,.l g,.i h]
def Zna (k:Nat) (d e f g a c h:LL) (b:Int):Zqf (k+1) d e f g a c h b =
 (if P0 .lss b (Xh a:Int) then
 Zj a b [.int .i64,.int .i64] fun (i:Int×Int)=>
 (g40 d i.1).bind fun j=>
 Zj a b [.int .i64,.int .i64] fun (l:Int×Int)=>
 (g40 j l.2).bind fun m=>
 Zqf k m e f g a c h (P1 .add .i64 b 1)
 else
 (g40 d (Xh c:Int)).bind fun i=>
 Zqg Zr i e f g a c h 0):=by kernel_rfl
noncomputable def ZqB (k:Nat) (a b c d e f g:LL) (h:Int):Option (LL):=F47.lp [2,1,2,1,2] 0 r0 k [.l a,.l b,.l c,.l d,.l e,.l f,.l g,.i h]
def ZmE (k:Nat) (d e f a c g h:LL) (b:Int):ZqB (k+1) d e f a c g h b =
 (if P0 .lss b (Xh a:Int) then
 Zj a b [.int .i64,.int .i64,.int .i64,.int .i64] fun (i:Int×Int×Int×Int)=>
 (g40 d i.1).bind fun l=>
 Zj a b [.int .i64,.int .i64,.int .i64,.int .i64] fun (j:Int×Int×Int×Int)=>
 (g43 l j.2.1 j.2.2.1 j.2.2.2).bind fun m=>
 ZqB k m e f a c g h (P1 .add .i64 b 1)
 else
 (g40 d (Xh c:Int)).bind fun i=>
 Zqf Zr i e f a c g h 0):=by kernel_rfl
noncomputable def Zpl (k:Nat) (a b c d e f g:LL) (h:Int):Option (LL):=F47.lp [2,1,2] 0 r0 k [.l a,.l b,.l c,.l d,.l e,.l f,.l g,.i h]
def ZlF (k:Nat) (e f b c g h i:LL) (d:Int):Zpl (k+1) e f b c g h i d =
 (if P0 .lss d (Xh b:Int) then
 Zj b d hs6 fun (a:Qt10)=>
 (g41 e a.1 a.2.1 a.2.2.1 a.2.2.2.1 (d4 a).1 (d4 a).2.1 (d6 a).1 (d6 a).2.1 (d8 a).1 (d8 a).2.1 (df a).1 (df a).2.1 (dg a).1 (dg a).2.1 (dh a).1 (dh a).2.1 (P2 a).1 (P2 a).2.1 (d2 (P2 a)).1 (d2 (P2 a)).2.1 (d4 (P2 a)).1 (d4 (P2 a)).2.1 (d6 (P2 a)).1 (d6 (P2 a)).2.1 (d8 (P2 a)).1 (d8 (P2 a)).2.1 (df (P2 a)).1 (df (P2 a)).2).bind fun j=>
 Zpl k j f b c g h i (P1 .add .i64 d 1)
 else
 (g40 e (Xh c:Int)).bind fun a=>
 ZqB Zr a f b c g h i 0):=by kernel_rfl
noncomputable def ZoX (k:Nat) (a b c d e f g:LL) (h:Int):Option (LL):=F47.lp [2] 0 r0 k [.l a,.l b,.l c,.l d,.l e,.l f,.l g,.i h]
def Znt (k:Nat) (e b d f g h i:LL) (c:Int):ZoX (k+1) e b d f g h i c =
 (if P0 .lss c (Xh b:Int) then
 Zj b c hs11 fun (a:Qt21)=>
 (g49 e a.1 a.2.1 a.2.2.1 a.2.2.2.1 (d4 a).1 (d4 a).2.1 (d6 a).1 (d6 a).2.1 (d8 a).1 (d8 a).2.1 (df a).1).bind fun l=>
 Zj b c hs11 fun (m:Qt21)=>
 (g40 l (df m).2.1).bind fun n=>
 Zj b c hs11 fun (j:Qt21)=>
 (g43 n (dg j).1 (dg j).2.1 (dh j)).bind fun o=>
 ZoX k o b d f g h i (P1 .add .i64 c 1)
 else
 (g40 e (Xh d:Int)).bind fun a=>
 Zpl Zr a b d f g h i 0):=by kernel_rfl
def ZyW (b a c d e f g:LL):g47 b a c d e f g =
 ((g40 b (Xh a:Int)).bind fun h=>
 ZoX Zr h a c d e f g 0):=by kernel_rfl
noncomputable def F46:Fn:=⟨25,[4],[],[],0,[4],[],Tryz.f46,[.c (.own Xb 5),.agg hs7],[.c (.own Xb 5)],[(40,F40.S),(48,F48.S),(47,F47.S),(42,F42.S)]⟩
def ZLa:F46.S.Ok Tryz.prog 46:=F46.ok Tryz.func46 ⟨ZtC,⟨ZIt,⟨ZIV,⟨ZJg,trivial⟩⟩⟩⟩
noncomputable def g46 (a:LL) (c d:Int) (e f h j k m n o:LL) (p:Bool) (q:Int) (r s t u v w x y:LL):Option (LL):=F46.S.g [.l a,.i c,.i d,.l e,.l f,.l h,.l j,.l k,.l m,.l n,.l o,.b p,.i q,.l r,.l s,.l t,.l u,.l v,.l w,.l x,.l y]
def ZyY (a:LL) (b c:Int) (d e f g h i j k:LL) (l:Bool) (m:Int) (n o p q r s t u:LL):g46 a b c d e f g h i j k l m n o p q r s t u =
 ((g40 a b).bind fun v=>
 (g48 v c d e).bind fun w=>
 (g47 w f g h i j k).bind fun x=>
 (g42 x l).bind fun y=>
 (g48 y m n o).bind fun z=>
 (g47 z p q r s t u).bind fun A=>
 Xa (A)):=by kernel_rfl
noncomputable def F15:Fn:=⟨195,[2,3],[(29,[(1,.box hs0),(4,.c (.own Xb 5)),(5,.c (.int .i64))]),(35,[(1,.box hs0),(4,.c (.own Xb 5)),(6,.c (.int .i64))])],[],0,[2],[],Tryz.f15,[.agg hs0],[.c (.own Xb 5),.c (.int .i64)],[(16,F16.S),(40,F40.S),(41,F41.S),(49,F49.S),(43,F43.S),(42,F42.S),(44,F44.S),(45,F45.S),(46,F46.S),(48,F48.S),(47,F47.S)]⟩
def ZJo:F15.S.Ok Tryz.prog 15:=F15.ok Tryz.func15 ⟨ZKh,⟨ZtC,⟨ZIr,⟨ZH4,⟨ZzT,⟨ZJg,⟨ZJi,⟨ZI1,⟨ZLa,⟨ZIt,⟨ZIV,trivial⟩⟩⟩⟩⟩⟩⟩⟩⟩⟩⟩
noncomputable def g15 (a c d e f h j k m n o:Int) (p:Bool) (q r s t u v w x y z A C D E G H J K L M:Int) (N:LL) (O P Q R T U:Int) (V:Bool) (W X Y Z:LL) (aa ab:Int) (ac ad ae af ag ah ai aj:LL) (ak al:Int) (am an ao ap aq ar aZ au:LL) (av:Bool) (aw:Int) (ax ay az a0 a1 a2 a3 a4:LL):Option (LL×Int):=F15.S.g [.i a,.i c,.i d,.i e,.i f,.i h,.i j,.i k,.i m,.i n,.i o,.b p,.i q,.i r,.i s,.i t,.i u,.i v,.i w,.i x,.i y,.i z,.i A,.i C,.i D,.i E,.i G,.i H,.i J,.i K,.i L,.i M,.l N,.i O,.i P,.i Q,.i R,.i T,.i U,.b V,.l W,.l X,.l Y,.l Z,.i aa,.i ab,.l ac,.l ad,.l ae,.l af,.l ag,.l ah,.l ai,.l aj,.i ak,.i al,.l am,.l an,.l ao,.l ap,.l aq,.l ar,.l aZ,.l au,.b av,.i aw,.l ax,.l ay,.l az,.l a0,.l a1,.l a2,.l a3,.l a4]
noncomputable def Y9 (k:Nat) (a c d e f g h j m n o:Int) (p:Bool) (q r s t u v w x y z A C D E G H J K L M:Int) (N:LL) (O P Q R T U:Int) (V:Bool) (W X Y Z:LL) (S ab:Int) (ac ad ae af ag ah ai aj:LL) (ak al:Int) (am an ao ap aq ar aZ au:LL) (av:Bool) (aw:Int) (ax ay az a0 a1 a2 a3 a4 a5:LL) (a6:Int):Option (LL×Int):=F15.lp [0,1,5,3,2] 0 r0 k [.i a,.i c,.i d,.i e,.i f,.i g,.i h,.i j,.i m,.i n,.i o,.b p,.i q,.i r,.i s,.i t,.i u,.i v,.i w,.i x,.i y,.i z,.i A,.i C,.i D,.i E,.i G,.i H,.i J,.i K,.i L,.i M,.l N,.i O,.i P,.i Q,.i R,.i T,.i U,.b V,.l W,.l X,.l Y,.l Z,.i S,.i ab,.l ac,.l ad,.l ae,.l af,.l ag,.l ah,.l ai,.l aj,.i ak,.i al,.l am,.l an,.l ao,.l ap,.l aq,.l ar,.l aZ,.l au,.b av,.i aw,.l ax,.l ay,.l az,.l a0,.l a1,.l a2,.l a3,.l a4,.l a5,.i a6]
def ZlX (k:Nat) (e f g h i j l m n o p:Int) (q:Bool) (r s t u v w x y z A C D E G H J K L M N:Int) (O:LL) (P Q R T U V:Int) (W:Bool) (X b Y Z:LL) (S ab:Int) (ac ad ae af ag ah ai aj:LL) (ak al:Int) (am an ao ap aq ar aZ au:LL) (av:Bool) (aw:Int) (ax ay az a0 a1 a2 a3 a4 d:LL) (c:Int):Y9 (k+1) e f g h i j l m n o p q r s t u v w x y z A C D E G H J K L M N O P Q R T U V W X b Y Z S ab ac ad ae af ag ah ai aj ak al am an ao ap aq ar aZ au av aw ax ay az a0 a1 a2 a3 a4 d c =
 (if P0 .lss c (Xh b:Int) then
 Zj b c hs16 fun (a:Qt31)=>
 (g49 d a.1 a.2.1 a.2.2.1 a.2.2.2.1 (d4 a).1 (d4 a).2.1 (d6 a).1 (d6 a).2.1 (d8 a).1 (d8 a).2.1 a.2.2.2.2.2.2.2.2.2.2).bind fun a5=>
 Y9 k e f g h i j l m n o p q r s t u v w x y z A C D E G H J K L M N O P Q R T U V W X b Y Z S ab ac ad ae af ag ah ai aj ak al am an ao ap aq ar aZ au av aw ax ay az a0 a1 a2 a3 a4 a5 (P1 .add .i64 c 1)
 else
 Xa (d,0)):=by kernel_rfl
noncomputable def Zot (k:Nat) (a c d e f g h j m n o:Int) (p:Bool) (q r s t u v w x y z A C D E G H J K L M:Int) (N:LL) (O P Q R T U:Int) (V:Bool) (W X Y Z:LL) (S ab:Int) (ac ad ae af ag ah ai aj:LL) (ak al:Int) (am an ao ap aq ar aZ au:LL) (av:Bool) (aw:Int) (ax ay az a0 a1 a2 a3 a4 a5:LL) (a6:Int):Option (LL×Int):=F15.lp [0,1,4,1,1,1,1,1,1,1,1,1,1,0,3] 0 r0 k [.i a,.i c,.i d,.i e,.i f,.i g,.i h,.i j,.i m,.i n,.i o,.b p,.i q,.i r,.i s,.i t,.i u,.i v,.i w,.i x,.i y,.i z,.i A,.i C,.i D,.i E,.i G,.i H,.i J,.i K,.i L,.i M,.l N,.i O,.i P,.i Q,.i R,.i T,.i U,.b V,.l W,.l X,.l Y,.l Z,.i S,.i ab,.l ac,.l ad,.l ae,.l af,.l ag,.l ah,.l ai,.l aj,.i ak,.i al,.l am,.l an,.l ao,.l ap,.l aq,.l ar,.l aZ,.l au,.b av,.i aw,.l ax,.l ay,.l az,.l a0,.l a1,.l a2,.l a3,.l a4,.l a5,.i a6]
def ZlE (k:Nat) (b g h i j l m n o p q:Int) (r:Bool) (s t u v w x y z A C D E G H J K L M N O:Int) (P:LL) (Q R T U V W:Int) (X:Bool) (Y c Z a:LL) (S ab:Int) (ac ad ae af ag ah ai aj:LL) (ak al:Int) (am an ao ap aq ar aZ au:LL) (av:Bool) (aw:Int) (ax ay az a0 a1 a2 a3 a4 d:LL) (e:Int):Zot (k+1) b g h i j l m n o p q r s t u v w x y z A C D E G H J K L M N O P Q R T U V W X Y c Z a S ab ac ad ae af ag ah ai aj ak al am an ao ap aq ar aZ au av aw ax ay az a0 a1 a2 a3 a4 d e =
 (if P0 .lss e (Xh a:Int) then
 Zj a e [.int .i64,.int .i64] fun (f:Int×Int)=>
 (g40 d f.1).bind fun a5=>
 Zj a e [.int .i64,.int .i64] fun (a6:Int×Int)=>
 (g40 a5 a6.2).bind fun a7=>
 Zot k b g h i j l m n o p q r s t u v w x y z A C D E G H J K L M N O P Q R T U V W X Y c Z a S ab ac ad ae af ag ah ai aj ak al am an ao ap aq ar aZ au av aw ax ay az a0 a1 a2 a3 a4 a7 (P1 .add .i64 e 1)
 else
 if P0 .eql b 2 then
 (g40 d (Xh c:Int)).bind fun f=>
 Y9 Zr b g h i j l m n o p q r s t u v w x y z A C D E G H J K L M N O P Q R T U V W X Y c Z a S ab ac ad ae af ag ah ai aj ak al am an ao ap aq ar aZ au av aw ax ay az a0 a1 a2 a3 a4 f 0
 else
 if P0 .eql b 4 then
 (g40 d (Xh c:Int)).bind fun f=>
 Y9 Zr b g h i j l m n o p q r s t u v w x y z A C D E G H J K L M N O P Q R T U V W X Y c Z a S ab ac ad ae af ag ah ai aj ak al am an ao ap aq ar aZ au av aw ax ay az a0 a1 a2 a3 a4 f 0
 else
 Xa (d,0)):=by kernel_rfl
def Ko (a m n o f d p g h i k:Int) (q:Bool) (r s t u v w x y z A C D E G H J K L M O:Int) (P:LL) (Q R T U V W:Int) (X:Bool) (Y b j Z:LL) (N S:Int) (ac ad ae af ag ah ai aj:LL) (ak al:Int) (am an ao ap aq ar aZ au:LL) (av:Bool) (aw:Int) (ax ay az a0 a1 a2 a3 a4:LL):g15 a m n o f d p g h i k q r s t u v w x y z A C D E G H J K L M O P Q R T U V W X Y b j Z N S ac ad ae af ag ah ai aj ak al am an ao ap aq ar aZ au av aw ax ay az a0 a1 a2 a3 a4 =
 ((g16 a m n o f d p g h i k q r s t u v w x y z A C D E G H J K L M O P Q R T U V W X Y b j Z N S ac ad ae af ag ah ai aj ak al am an ao ap aq ar aZ au av aw ax ay az a0 a1 a2 a3 a4).bind fun a9=>
 if (!a9) then
 Xa (E0,1)
 else
 (g40 E0 a).bind fun ba=>
 (g40 ba m).bind fun bb=>
 (g40 bb n).bind fun bc=>
 (g40 bc o).bind fun a6=>
 if P0 .eql a 1 then
 (g40 a6 d).bind fun l=>
 (g41 l r s t u v w x y z A C D E G H J K L M O P Q R T U V W X).bind fun c=>
 if P0 .eql a 2 then
 (g40 c (Xh b:Int)).bind fun e=>
 Y9 Zr a m n o f d p g h i k q r s t u v w x y z A C D E G H J K L M O P Q R T U V W X Y b j Z N S ac ad ae af ag ah ai aj ak al am an ao ap aq ar aZ au av aw ax ay az a0 a1 a2 a3 a4 e 0
 else
 if P0 .eql a 4 then
 (g40 c (Xh b:Int)).bind fun e=>
 Y9 Zr a m n o f d p g h i k q r s t u v w x y z A C D E G H J K L M O P Q R T U V W X Y b j Z N S ac ad ae af ag ah ai aj ak al am an ao ap aq ar aZ au av aw ax ay az a0 a1 a2 a3 a4 e 0
 else
 Xa (c,0)
 else
 if P0 .eql a 2 then
 (g40 a6 d).bind fun l=>
 (g43 l g h i).bind fun c=>
 (g40 c k).bind fun e=>
 (g42 e q).bind fun a5=>
 if P0 .eql a 2 then
 (g40 a5 (Xh b:Int)).bind fun a7=>
 Y9 Zr a m n o f d p g h i k q r s t u v w x y z A C D E G H J K L M O P Q R T U V W X Y b j Z N S ac ad ae af ag ah ai aj ak al am an ao ap aq ar aZ au av aw ax ay az a0 a1 a2 a3 a4 a7 0
 else
 if P0 .eql a 4 then
 (g40 a5 (Xh b:Int)).bind fun a7=>
 Y9 Zr a m n o f d p g h i k q r s t u v w x y z A C D E G H J K L M O P Q R T U V W X Y b j Z N S ac ad ae af ag ah ai aj ak al am an ao ap aq ar aZ au av aw ax ay az a0 a1 a2 a3 a4 a7 0
 else
 Xa (a5,0)
 else
 if P0 .eql a 4 then
 (g40 a6 d).bind fun l=>
 (g43 l g h i).bind fun c=>
 (g40 c p).bind fun e=>
 if P0 .eql a 2 then
 (g40 e (Xh b:Int)).bind fun a5=>
 Y9 Zr a m n o f d p g h i k q r s t u v w x y z A C D E G H J K L M O P Q R T U V W X Y b j Z N S ac ad ae af ag ah ai aj ak al am an ao ap aq ar aZ au av aw ax ay az a0 a1 a2 a3 a4 a5 0
 else
 if P0 .eql a 4 then
 (g40 e (Xh b:Int)).bind fun a5=>
 Y9 Zr a m n o f d p g h i k q r s t u v w x y z A C D E G H J K L M O P Q R T U V W X Y b j Z N S ac ad ae af ag ah ai aj ak al am an ao ap aq ar aZ au av aw ax ay az a0 a1 a2 a3 a4 a5 0
 else
 Xa (e,0)
 else
 if P0 .eql a 5 then
 (g40 a6 d).bind fun l=>
 (g43 l g h i).bind fun c=>
 (g40 c k).bind fun e=>
 if P0 .eql a 2 then
 (g40 e (Xh b:Int)).bind fun a5=>
 Y9 Zr a m n o f d p g h i k q r s t u v w x y z A C D E G H J K L M O P Q R T U V W X Y b j Z N S ac ad ae af ag ah ai aj ak al am an ao ap aq ar aZ au av aw ax ay az a0 a1 a2 a3 a4 a5 0
 else
 if P0 .eql a 4 then
 (g40 e (Xh b:Int)).bind fun a5=>
 Y9 Zr a m n o f d p g h i k q r s t u v w x y z A C D E G H J K L M O P Q R T U V W X Y b j Z N S ac ad ae af ag ah ai aj ak al am an ao ap aq ar aZ au av aw ax ay az a0 a1 a2 a3 a4 a5 0
 else
 Xa (e,0)
 else
 if P0 .eql a 6 then
 (g40 a6 d).bind fun l=>
 (g43 l g h i).bind fun c=>
 (g44 c Y).bind fun e=>
 if P0 .eql a 2 then
 (g40 e (Xh b:Int)).bind fun a5=>
 Y9 Zr a m n o f d p g h i k q r s t u v w x y z A C D E G H J K L M O P Q R T U V W X Y b j Z N S ac ad ae af ag ah ai aj ak al am an ao ap aq ar aZ au av aw ax ay az a0 a1 a2 a3 a4 a5 0
 else
 if P0 .eql a 4 then
 (g40 e (Xh b:Int)).bind fun a5=>
 Y9 Zr a m n o f d p g h i k q r s t u v w x y z A C D E G H J K L M O P Q R T U V W X Y b j Z N S ac ad ae af ag ah ai aj ak al am an ao ap aq ar aZ au av aw ax ay az a0 a1 a2 a3 a4 a5 0
 else
 Xa (e,0)
 else
 if P0 .eql a 12 then
 (g40 a6 f).bind fun l=>
 (g45 l j).bind fun c=>
 if P0 .eql a 2 then
 (g40 c (Xh b:Int)).bind fun e=>
 Y9 Zr a m n o f d p g h i k q r s t u v w x y z A C D E G H J K L M O P Q R T U V W X Y b j Z N S ac ad ae af ag ah ai aj ak al am an ao ap aq ar aZ au av aw ax ay az a0 a1 a2 a3 a4 e 0
 else
 if P0 .eql a 4 then
 (g40 c (Xh b:Int)).bind fun e=>
 Y9 Zr a m n o f d p g h i k q r s t u v w x y z A C D E G H J K L M O P Q R T U V W X Y b j Z N S ac ad ae af ag ah ai aj ak al am an ao ap aq ar aZ au av aw ax ay az a0 a1 a2 a3 a4 e 0
 else
 Xa (c,0)
 else
 if P0 .eql a 13 then
 (g40 a6 f).bind fun l=>
 (g46 l ak al am an ao ap aq ar aZ au av aw ax ay az a0 a1 a2 a3 a4).bind fun c=>
 if P0 .eql a 2 then
 (g40 c (Xh b:Int)).bind fun e=>
 Y9 Zr a m n o f d p g h i k q r s t u v w x y z A C D E G H J K L M O P Q R T U V W X Y b j Z N S ac ad ae af ag ah ai aj ak al am an ao ap aq ar aZ au av aw ax ay az a0 a1 a2 a3 a4 e 0
 else
 if P0 .eql a 4 then
 (g40 c (Xh b:Int)).bind fun e=>
 Y9 Zr a m n o f d p g h i k q r s t u v w x y z A C D E G H J K L M O P Q R T U V W X Y b j Z N S ac ad ae af ag ah ai aj ak al am an ao ap aq ar aZ au av aw ax ay az a0 a1 a2 a3 a4 e 0
 else
 Xa (c,0)
 else
 if P0 .eql a 14 then
 (g40 a6 f).bind fun l=>
 (g40 l N).bind fun c=>
 (g45 c j).bind fun e=>
 (g48 e S ac ad).bind fun a5=>
 (g47 a5 ae af ag ah ai aj).bind fun a7=>
 if P0 .eql a 2 then
 (g40 a7 (Xh b:Int)).bind fun a8=>
 Y9 Zr a m n o f d p g h i k q r s t u v w x y z A C D E G H J K L M O P Q R T U V W X Y b j Z N S ac ad ae af ag ah ai aj ak al am an ao ap aq ar aZ au av aw ax ay az a0 a1 a2 a3 a4 a8 0
 else
 if P0 .eql a 4 then
 (g40 a7 (Xh b:Int)).bind fun a8=>
 Y9 Zr a m n o f d p g h i k q r s t u v w x y z A C D E G H J K L M O P Q R T U V W X Y b j Z N S ac ad ae af ag ah ai aj ak al am an ao ap aq ar aZ au av aw ax ay az a0 a1 a2 a3 a4 a8 0
 else
 Xa (a7,0)
 else
 if P0 .eql a 15 then
 (g40 a6 f).bind fun l=>
 if P0 .eql a 2 then
 (g40 l (Xh b:Int)).bind fun c=>
 Y9 Zr a m n o f d p g h i k q r s t u v w x y z A C D E G H J K L M O P Q R T U V W X Y b j Z N S ac ad ae af ag ah ai aj ak al am an ao ap aq ar aZ au av aw ax ay az a0 a1 a2 a3 a4 c 0
 else
 if P0 .eql a 4 then
 (g40 l (Xh b:Int)).bind fun c=>
 Y9 Zr a m n o f d p g h i k q r s t u v w x y z A C D E G H J K L M O P Q R T U V W X Y b j Z N S ac ad ae af ag ah ai aj ak al am an ao ap aq ar aZ au av aw ax ay az a0 a1 a2 a3 a4 c 0
 else
 Xa (l,0)
 else
 if P0 .eql a 16 then
 (g40 a6 f).bind fun l=>
 if P0 .eql a 2 then
 (g40 l (Xh b:Int)).bind fun c=>
 Y9 Zr a m n o f d p g h i k q r s t u v w x y z A C D E G H J K L M O P Q R T U V W X Y b j Z N S ac ad ae af ag ah ai aj ak al am an ao ap aq ar aZ au av aw ax ay az a0 a1 a2 a3 a4 c 0
 else
 if P0 .eql a 4 then
 (g40 l (Xh b:Int)).bind fun c=>
 Y9 Zr a m n o f d p g h i k q r s t u v w x y z A C D E G H J K L M O P Q R T U V W X Y b j Z N S ac ad ae af ag ah ai aj ak al am an ao ap aq ar aZ au av aw ax ay az a0 a1 a2 a3 a4 c 0
 else
 Xa (l,0)
 else
 if P0 .eql a 17 then
 (g45 a6 j).bind fun l=>
 (g40 l (Xh Z:Int)).bind fun c=>
 Zot Zr a m n o f d p g h i k q r s t u v w x y z A C D E G H J K L M O P Q R T U V W X Y b j Z N S ac ad ae af ag ah ai aj ak al am an ao ap aq ar aZ au av aw ax ay az a0 a1 a2 a3 a4 c 0
 else
 (g40 a6 d).bind fun l=>
 (g43 l g h i).bind fun c=>
 if P0 .eql a 2 then
 (g40 c (Xh b:Int)).bind fun e=>
 Y9 Zr a m n o f d p g h i k q r s t u v w x y z A C D E G H J K L M O P Q R T U V W X Y b j Z N S ac ad ae af ag ah ai aj ak al am an ao ap aq ar aZ au av aw ax ay az a0 a1 a2 a3 a4 e 0
 else
 if P0 .eql a 4 then
 (g40 c (Xh b:Int)).bind fun e=>
 Y9 Zr a m n o f d p g h i k q r s t u v w x y z A C D E G H J K L M O P Q R T U V W X Y b j Z N S ac ad ae af ag ah ai aj ak al am an ao ap aq ar aZ au av aw ax ay az a0 a1 a2 a3 a4 e 0
 else
 Xa (c,0)):=by kernel_rfl
end Go.Proofs.YtjldbnbdcmfbmaaGreat
