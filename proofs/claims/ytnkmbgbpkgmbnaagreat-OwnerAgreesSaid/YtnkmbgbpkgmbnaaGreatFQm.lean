import Derived.Test.YtnkmbgbpkgmbnaaGreatFQl
open Option renaming some→Xa
open Bool renaming false→Xb
open List renaming length→Xg,drop→Xz
open Int renaming toNat→Xh
set_option linter.unusedVariables false
set_option linter.unusedSimpArgs false
set_option linter.defProp false
namespace Go.Proofs.YtnkmbgbpkgmbnaaGreat
open Go Go.AM
set_option maxRecDepth 100000
noncomputable def F86:Fn:=⟨26,[4],[(4,[(0,.c (.slice 3)),(1,.c (.slice 3)),(5,.c (.int .i64))])],[],0,[],[],Tryz.f86,[.c (.slice 3),.c (.slice 3)],[.c (.bool)],[]⟩
def ZBo:F86.S.Ok Tryz.prog 86:=F86.ok Tryz.func86
noncomputable def g86 (a b:LL):Option (Bool):=F86.S.g [.l a,.l b]
noncomputable def Zos (k:Nat) (a b:LL) (c:Int):Option (Bool):=F86.lp [1,0] 0 r0 k [.l a,.l b,.i c]
def Zik (k:Nat) (b c:LL) (a:Int):Zos (k+1) b c a =
 (if P0 .lss a (Xg b:Int) then
 Zn b a [.int .i64,.int .i64,.int .i64] fun (d:Int×Int×Int)=>
 Zn c a [.int .i64,.int .i64,.int .i64] fun (e:Int×Int×Int)=>
 if (!((P0 .eql d.1 e.1)&&((P0 .eql d.2.1 e.2.1)&&((P0 .eql d.2.2 e.2.2)&&true)))) then
 Xa (Xb)
 else
 Zos k b c (P1 .add .i64 a 1)
 else
 Xa (true)):=by kernel_rfl
def ZvQ (a b:LL):g86 a b =
 (if P0 .neq (Xg a:Int) (Xg b:Int) then
 Xa (Xb)
 else
 Zos ZG a b 0):=by kernel_rfl
noncomputable def F44:Fn:=⟨24,[4],[],[],0,[],[],Tryz.f44,[.agg hs24,.agg hs24],[.c (.bool)],[(86,F86.S)]⟩
def ZBu:F44.S.Ok Tryz.prog 44:=F44.ok Tryz.func44 ⟨ZBo,trivial⟩
noncomputable def g44 (a c d:Int) (e:LL) (f h j k m n:Int) (o:Bool) (p q r:Int) (s:LL) (t u v w x y:Int) (z:Bool):Option (Bool):=F44.S.g [.i a,.i c,.i d,.l e,.i f,.i h,.i j,.i k,.i m,.i n,.b o,.i p,.i q,.i r,.l s,.i t,.i u,.i v,.i w,.i x,.i y,.b z]
def Zva (a b c:Int) (d:LL) (e f g h i j:Int) (k:Bool) (l m n:Int) (o:LL) (p q r s t u:Int) (v:Bool):g44 a b c d e f g h i j k l m n o p q r s t u v =
 (if ((P0 .eql a l)&&((P0 .eql b m)&&((P0 .eql c n)&&true))) then
 if ((P0 .eql e p)&&((P0 .eql f q)&&((P0 .eql g r)&&((P0 .eql h s)&&((P0 .eql i t)&&((P0 .eql j u)&&((k == v)&&true))))))) then
 (g86 d o).bind fun w=>
 Xa (w)
 else
 Xa (Xb)
 else
 Xa (Xb)):=by kernel_rfl
noncomputable def F14:Fn:=⟨55,[4],[(4,[(0,.c (.slice 13)),(1,.c (.slice 13)),(5,.c (.int .i64))])],[],0,[],[],Tryz.f14,[.c (.slice 13),.c (.slice 13)],[.c (.bool)],[(44,F44.S)]⟩
def ZBs:F14.S.Ok Tryz.prog 14:=F14.ok Tryz.func14 ⟨ZBu,trivial⟩
noncomputable def g14 (a b:LL):Option (Bool):=F14.S.g [.l a,.l b]
noncomputable def ZoE (k:Nat) (a b:LL) (c:Int):Option (Bool):=F14.lp [1,0] 0 r0 k [.l a,.l b,.i c]
def Zok (k:Nat) (d e:LL) (c:Int):ZoE (k+1) d e c =
 (if P0 .lss c (Xg d:Int) then
 Zn d c hs21 fun (f:Qt30)=>
 Zn e c hs21 fun (g:Qt30)=>
 if P0 .neq f.1 g.1 then
 Xa (Xb)
 else
 Zn d c hs21 fun (h:Qt30)=>
 Zn e c hs21 fun (i:Qt30)=>
 if P0 .neq h.2.1 i.2.1 then
 Xa (Xb)
 else
 Zn d c hs21 fun (a:Qt30)=>
 Zn e c hs21 fun (b:Qt30)=>
 (g44 a.2.2.1 a.2.2.2.1 (d4 a).1 (d4 a).2.1 (d6 a).1 (d6 a).2.1 (d8 a).1 (d8 a).2.1 (df a).1 (df a).2.1 (dg a) b.2.2.1 b.2.2.2.1 (d4 b).1 (d4 b).2.1 (d6 b).1 (d6 b).2.1 (d8 b).1 (d8 b).2.1 (df b).1 (df b).2.1 (dg b)).bind fun j=>
 if (!j) then
 Xa (Xb)
 else
 ZoE k d e (P1 .add .i64 c 1)
 else
 Xa (true)):=by kernel_rfl
def Zvd (a b:LL):g14 a b =
 (if P0 .neq (Xg a:Int) (Xg b:Int) then
 Xa (Xb)
 else
 ZoE ZG a b 0):=by kernel_rfl
noncomputable def F12:Fn:=⟨71,[6,7,8],[(3,[(0,.box hs5),(1,.c (.slice 74)),(2,.c (.int .i64)),(6,.box hs0),(9,.c (.int .i64)),(10,.c (.int .i64))])],[0],0,[],[],Tryz.f12,[.box hs5,.c (.slice 74),.c (.int .i64)],[.agg hs0,.c (.int .i64),.c (.bool)],[(16,F16.S)]⟩
def ZA3:F12.S.Ok Tryz.prog 12:=F12.ok Tryz.func12 ⟨ZyR,trivial⟩
noncomputable def g12 (a c d:Int) (e:Bool) (f h:LL) (j k m n o p q r s t u v w x y z A C D E:Int) (G:LL) (H J K L M N:Int) (O:Bool) (P:Int) (Q R T U:LL) (V:Int):Option (Qt1):=F12.S.g [.i a,.i c,.i d,.b e,.l f,.l h,.i j,.i k,.i m,.i n,.i o,.i p,.i q,.i r,.i s,.i t,.i u,.i v,.i w,.i x,.i y,.i z,.i A,.i C,.i D,.i E,.l G,.i H,.i J,.i K,.i L,.i M,.i N,.b O,.i P,.l Q,.l R,.l T,.l U,.i V]
noncomputable def WL (k:Nat) (a c d:Int) (e:Bool) (f g:LL) (h j m n o p q r s t u v w x y z A C D E:Int) (G:LL) (H J K L M N:Int) (O:Bool) (P:Int) (Q R T U:LL) (V W X Y Z S ab ac ad ae af ag:Int) (ah:Bool) (ai aj ak al am an ao ap aq ar au av aw ax ay az a0 a1 a2 a3:Int) (a4:LL) (a5 a6 a7 a8 a9 ba:Int) (bb:Bool) (bc bd be bf:LL) (bg bh:Int) (bi bj bk bl bm bn bo bp:LL) (bq br:Int) (bs bt bu bv bw bx bz b0:LL) (b1:Bool) (b2:Int) (b3 b4 b5 b6 b7 b8 b9 ca:LL) (cb cc:Int):Option (Qt1):=F12.lp [0] 0 r0 k [.i a,.i c,.i d,.b e,.l f,.l g,.i h,.i j,.i m,.i n,.i o,.i p,.i q,.i r,.i s,.i t,.i u,.i v,.i w,.i x,.i y,.i z,.i A,.i C,.i D,.i E,.l G,.i H,.i J,.i K,.i L,.i M,.i N,.b O,.i P,.l Q,.l R,.l T,.l U,.i V,.i W,.i X,.i Y,.i Z,.i S,.i ab,.i ac,.i ad,.i ae,.i af,.i ag,.b ah,.i ai,.i aj,.i ak,.i al,.i am,.i an,.i ao,.i ap,.i aq,.i ar,.i au,.i av,.i aw,.i ax,.i ay,.i az,.i a0,.i a1,.i a2,.i a3,.l a4,.i a5,.i a6,.i a7,.i a8,.i a9,.i ba,.b bb,.l bc,.l bd,.l be,.l bf,.i bg,.i bh,.l bi,.l bj,.l bk,.l bl,.l bm,.l bn,.l bo,.l bp,.i bq,.i br,.l bs,.l bt,.l bu,.l bv,.l bw,.l bx,.l bz,.l b0,.b b1,.i b2,.l b3,.l b4,.l b5,.l b6,.l b7,.l b8,.l b9,.l ca,.i cb,.i cc]
def ZeC (k:Nat) (d e f:Int) (g:Bool) (h i:LL) (j l m n o p q r s t u v w x y z A C D E:Int) (G:LL) (H J K L M N:Int) (O:Bool) (P:Int) (Q R T c:LL) (U X Y Z S ab ac ad ae af ag ah:Int) (ai:Bool) (aj ak al am an ao ap aq ar au av aw ax ay az a0 a1 a2 a3 a4:Int) (a5:LL) (a6 a7 a8 a9 ba bb:Int) (bc:Bool) (bd be bf bg:LL) (bh bi:Int) (bj bk bl bm bn bo bp bq:LL) (br bs:Int) (bt bu bv bw bx bz b0 b1:LL) (b2:Bool) (b3:Int) (b4 b5 b6 b7 b8 b9 ca cb:LL) (V W:Int):WL (k+1) d e f g h i j l m n o p q r s t u v w x y z A C D E G H J K L M N O P Q R T c U X Y Z S ab ac ad ae af ag ah ai aj ak al am an ao ap aq ar au av aw ax ay az a0 a1 a2 a3 a4 a5 a6 a7 a8 a9 ba bb bc bd be bf bg bh bi bj bk bl bm bn bo bp bq br bs bt bu bv bw bx bz b0 b1 b2 b3 b4 b5 b6 b7 b8 b9 ca cb V W =
 (if P0 .lss W 200 then
 if P0 .gtr (Xg c:Int) 0 then
 Zn c 0 hs0 fun (b:Qt4)=>
 Zl ((0:Int)≤1)<|
 Zl ((1:Int)≤(Xg c:Int))<|
 if P0 .eql b.1 2 then
 Xa (b.1,b.2.1,b.2.2.1,b.2.2.2.1,(d4 b).1,(d4 b).2.1,(d6 b).1,(d6 b).2.1,(d8 b).1,(d8 b).2.1,(df b).1,(df b).2.1,(dg b).1,(dg b).2.1,(dh b).1,(dh b).2.1,(P2 b).1,(P2 b).2.1,(d2 (P2 b)).1,(d2 (P2 b)).2.1,(d4 (P2 b)).1,(d4 (P2 b)).2.1,(d6 (P2 b)).1,(d6 (P2 b)).2.1,(d8 (P2 b)).1,(d8 (P2 b)).2.1,(df (P2 b)).1,(df (P2 b)).2.1,(dg (P2 b)).1,(dg (P2 b)).2.1,(dh (P2 b)).1,(dh (P2 b)).2.1,(di b).1,(di b).2.1,(d2 (di b)).1,(d2 (di b)).2.1,(d4 (di b)).1,(d4 (di b)).2.1,(d6 (di b)).1,(d6 (di b)).2.1,(d8 (di b)).1,(d8 (di b)).2.1,(df (di b)).1,(df (di b)).2.1,(dg (di b)).1,(dg (di b)).2.1,(dh (di b)).1,(dh (di b)).2.1,(dj b).1,(dj b).2.1,(d2 (dj b)).1,(d2 (dj b)).2.1,(d4 (dj b)).1,(d4 (dj b)).2.1,(d6 (dj b)).1,(d6 (dj b)).2.1,(d8 (dj b)).1,(d8 (dj b)).2.1,(df (dj b)).1,(df (dj b)).2.1,(dg (dj b)).1,(dg (dj b)).2.1,(dh (dj b)).1,(dh (dj b)).2.1,(dk b).1,(dk b).2.1,(d2 (dk b)).1,(d2 (dk b)).2.1,(d4 (dk b)).1,(d4 (dk b)).2.1,(d6 (dk b)).1,(d6 (dk b)).2.1,(d8 (dk b)).1,(d8 (dk b)).2,V,(P0 .eql (Xg (Xz (Xh 1) c):Int) 0),d,e,f,g,h,i,j,l,m,n,o,p,q,r,s,t,u,v,w,x,y,z,A,C,D,E,G,H,J,K,L,M,N,O,P,Q,R,T)
 else
 if P0 .eql b.1 4 then
 (g16 d e f g h i j l m n o p q r s t u v w x y z A C D E G H J K L M N O P Q R T 5 0 b.2.2.2.1 0 0 0 0 (d6 b).2.1 (d8 b).1 (d8 b).2.1 U Xb 0 0 0 0 0 0 0 0 0 0 0 0 0 0 0 0 0 0 0 0 E0 0 0 0 0 0 0 Xb E0 E0 E0 E0 0 0 E0 E0 E0 E0 E0 E0 E0 E0 0 0 E0 E0 E0 E0 E0 E0 E0 E0 Xb 0 E0 E0 E0 E0 E0 E0 E0 E0).bind fun a=>
 Zl (ZB E0 (Xz (Xh 1) c) 1056)<|
 Zl (ZB (Xz (Xh 1) c) a.1 1056)<|
 WL k a.2.2.1 a.2.2.2.1 (d4 a).1 (d4 a).2.1 (d6 a).1 (d6 a).2.1 (d8 a).1 (d8 a).2.1 (df a).1 (df a).2.1 (dg a).1 (dg a).2.1 (dh a).1 (dh a).2.1 (P2 a).1 (P2 a).2.1 (d2 (P2 a)).1 (d2 (P2 a)).2.1 (d4 (P2 a)).1 (d4 (P2 a)).2.1 (d6 (P2 a)).1 (d6 (P2 a)).2.1 (d8 (P2 a)).1 (d8 (P2 a)).2.1 (df (P2 a)).1 (df (P2 a)).2.1 (dg (P2 a)).1 (dg (P2 a)).2.1 (dh (P2 a)).1 (dh (P2 a)).2.1 (di a).1 (di a).2.1 (d2 (di a)).1 (d2 (di a)).2.1 (d4 (di a)).1 (d4 (di a)).2.1 (d6 (di a)).1 (d6 (di a)).2 ((Xz (Xh 1) c)++a.1) U X Y Z S ab ac ad ae af ag ah ai aj ak al am an ao ap aq ar au av aw ax ay az a0 a1 a2 a3 a4 a5 a6 a7 a8 a9 ba bb bc bd be bf bg bh bi bj bk bl bm bn bo bp bq br bs bt bu bv bw bx bz b0 b1 b2 b3 b4 b5 b6 b7 b8 b9 ca cb (P1 .add .i64 V (Xg a.2.1:Int)) (P1 .add .i64 W 1)
 else
 if P0 .eql b.1 6 then
 (g16 d e f g h i j l m n o p q r s t u v w x y z A C D E G H J K L M N O P Q R T 7 0 b.2.2.2.1 0 0 0 0 (d6 b).2.1 (d8 b).1 (d8 b).2.1 0 Xb 0 0 0 0 0 0 0 0 0 0 0 0 0 0 0 0 0 0 0 0 E0 0 0 0 0 0 0 Xb E0 E0 E0 E0 0 0 E0 E0 E0 E0 E0 E0 E0 E0 0 0 E0 E0 E0 E0 E0 E0 E0 E0 Xb 0 E0 E0 E0 E0 E0 E0 E0 E0).bind fun a=>
 Zl (ZB E0 (Xz (Xh 1) c) 1056)<|
 Zl (ZB (Xz (Xh 1) c) a.1 1056)<|
 WL k a.2.2.1 a.2.2.2.1 (d4 a).1 (d4 a).2.1 (d6 a).1 (d6 a).2.1 (d8 a).1 (d8 a).2.1 (df a).1 (df a).2.1 (dg a).1 (dg a).2.1 (dh a).1 (dh a).2.1 (P2 a).1 (P2 a).2.1 (d2 (P2 a)).1 (d2 (P2 a)).2.1 (d4 (P2 a)).1 (d4 (P2 a)).2.1 (d6 (P2 a)).1 (d6 (P2 a)).2.1 (d8 (P2 a)).1 (d8 (P2 a)).2.1 (df (P2 a)).1 (df (P2 a)).2.1 (dg (P2 a)).1 (dg (P2 a)).2.1 (dh (P2 a)).1 (dh (P2 a)).2.1 (di a).1 (di a).2.1 (d2 (di a)).1 (d2 (di a)).2.1 (d4 (di a)).1 (d4 (di a)).2.1 (d6 (di a)).1 (d6 (di a)).2 ((Xz (Xh 1) c)++a.1) U X Y Z S ab ac ad ae af ag ah ai aj ak al am an ao ap aq ar au av aw ax ay az a0 a1 a2 a3 a4 a5 a6 a7 a8 a9 ba bb bc bd be bf bg bh bi bj bk bl bm bn bo bp bq br bs bt bu bv bw bx bz b0 b1 b2 b3 b4 b5 b6 b7 b8 b9 ca cb (P1 .add .i64 V (Xg a.2.1:Int)) (P1 .add .i64 W 1)
 else
 if P0 .eql b.1 8 then
 (g16 d e f g h i j l m n o p q r s t u v w x y z A C D E G H J K L M N O P Q R T 9 0 b.2.2.2.1 0 0 0 0 (d6 b).2.1 (d8 b).1 (d8 b).2.1 0 Xb 0 0 0 0 0 0 0 0 0 0 0 0 0 0 0 0 0 0 0 0 E0 0 0 0 0 0 0 Xb E0 E0 E0 E0 0 0 E0 E0 E0 E0 E0 E0 E0 E0 0 0 E0 E0 E0 E0 E0 E0 E0 E0 Xb 0 E0 E0 E0 E0 E0 E0 E0 E0).bind fun a=>
 Zl (ZB E0 (Xz (Xh 1) c) 1056)<|
 Zl (ZB (Xz (Xh 1) c) a.1 1056)<|
 WL k a.2.2.1 a.2.2.2.1 (d4 a).1 (d4 a).2.1 (d6 a).1 (d6 a).2.1 (d8 a).1 (d8 a).2.1 (df a).1 (df a).2.1 (dg a).1 (dg a).2.1 (dh a).1 (dh a).2.1 (P2 a).1 (P2 a).2.1 (d2 (P2 a)).1 (d2 (P2 a)).2.1 (d4 (P2 a)).1 (d4 (P2 a)).2.1 (d6 (P2 a)).1 (d6 (P2 a)).2.1 (d8 (P2 a)).1 (d8 (P2 a)).2.1 (df (P2 a)).1 (df (P2 a)).2.1 (dg (P2 a)).1 (dg (P2 a)).2.1 (dh (P2 a)).1 (dh (P2 a)).2.1 (di a).1 (di a).2.1 (d2 (di a)).1 (d2 (di a)).2.1 (d4 (di a)).1 (d4 (di a)).2.1 (d6 (di a)).1 (d6 (di a)).2 ((Xz (Xh 1) c)++a.1) U X Y Z S ab ac ad ae af ag ah ai aj ak al am an ao ap aq ar au av aw ax ay az a0 a1 a2 a3 a4 a5 a6 a7 a8 a9 ba bb bc bd be bf bg bh bi bj bk bl bm bn bo bp bq br bs bt bu bv bw bx bz b0 b1 b2 b3 b4 b5 b6 b7 b8 b9 ca cb (P1 .add .i64 V (Xg a.2.1:Int)) (P1 .add .i64 W 1)
 else
 (g16 d e f g h i j l m n o p q r s t u v w x y z A C D E G H J K L M N O P Q R T 11 0 b.2.2.2.1 0 0 0 0 (d6 b).2.1 (d8 b).1 (d8 b).2.1 0 Xb 0 0 0 0 0 0 0 0 0 0 0 0 0 0 0 0 0 0 0 0 E0 0 0 0 0 0 0 Xb E0 E0 E0 E0 0 0 E0 E0 E0 E0 E0 E0 E0 E0 0 0 E0 E0 E0 E0 E0 E0 E0 E0 Xb 0 E0 E0 E0 E0 E0 E0 E0 E0).bind fun a=>
 Zl (ZB E0 (Xz (Xh 1) c) 1056)<|
 Zl (ZB (Xz (Xh 1) c) a.1 1056)<|
 WL k a.2.2.1 a.2.2.2.1 (d4 a).1 (d4 a).2.1 (d6 a).1 (d6 a).2.1 (d8 a).1 (d8 a).2.1 (df a).1 (df a).2.1 (dg a).1 (dg a).2.1 (dh a).1 (dh a).2.1 (P2 a).1 (P2 a).2.1 (d2 (P2 a)).1 (d2 (P2 a)).2.1 (d4 (P2 a)).1 (d4 (P2 a)).2.1 (d6 (P2 a)).1 (d6 (P2 a)).2.1 (d8 (P2 a)).1 (d8 (P2 a)).2.1 (df (P2 a)).1 (df (P2 a)).2.1 (dg (P2 a)).1 (dg (P2 a)).2.1 (dh (P2 a)).1 (dh (P2 a)).2.1 (di a).1 (di a).2.1 (d2 (di a)).1 (d2 (di a)).2.1 (d4 (di a)).1 (d4 (di a)).2.1 (d6 (di a)).1 (d6 (di a)).2 ((Xz (Xh 1) c)++a.1) U X Y Z S ab ac ad ae af ag ah ai aj ak al am an ao ap aq ar au av aw ax ay az a0 a1 a2 a3 a4 a5 a6 a7 a8 a9 ba bb bc bd be bf bg bh bi bj bk bl bm bn bo bp bq br bs bt bu bv bw bx bz b0 b1 b2 b3 b4 b5 b6 b7 b8 b9 ca cb (P1 .add .i64 V (Xg a.2.1:Int)) (P1 .add .i64 W 1)
 else
 Xa (0,0,0,0,0,0,0,0,0,0,0,Xb,0,0,0,0,0,0,0,0,0,0,0,0,0,0,0,0,0,0,0,0,E0,0,0,0,0,0,0,Xb,E0,E0,E0,E0,0,0,E0,E0,E0,E0,E0,E0,E0,E0,0,0,E0,E0,E0,E0,E0,E0,E0,E0,Xb,0,E0,E0,E0,E0,E0,E0,E0,E0,0,Xb,d,e,f,g,h,i,j,l,m,n,o,p,q,r,s,t,u,v,w,x,y,z,A,C,D,E,G,H,J,K,L,M,N,O,P,Q,R,T)
 else
 Xa (0,0,0,0,0,0,0,0,0,0,0,Xb,0,0,0,0,0,0,0,0,0,0,0,0,0,0,0,0,0,0,0,0,E0,0,0,0,0,0,0,Xb,E0,E0,E0,E0,0,0,E0,E0,E0,E0,E0,E0,E0,E0,0,0,E0,E0,E0,E0,E0,E0,E0,E0,Xb,0,E0,E0,E0,E0,E0,E0,E0,E0,0,Xb,d,e,f,g,h,i,j,l,m,n,o,p,q,r,s,t,u,v,w,x,y,z,A,C,D,E,G,H,J,K,L,M,N,O,P,Q,R,T)):=by kernel_rfl
def ZnD (a b c:Int) (d:Bool) (e f:LL) (g h i j k l m n o p q r s t u v w x y z:Int) (A:LL) (C D E G H J:Int) (K:Bool) (L:Int) (M O P Q:LL) (R:Int):g12 a b c d e f g h i j k l m n o p q r s t u v w x y z A C D E G H J K L M O P Q R =
 (WL ZG a b c d e f g h i j k l m n o p q r s t u v w x y z A C D E G H J K L M O P Q R 0 0 0 0 0 0 0 0 0 0 0 Xb 0 0 0 0 0 0 0 0 0 0 0 0 0 0 0 0 0 0 0 0 E0 0 0 0 0 0 0 Xb E0 E0 E0 E0 0 0 E0 E0 E0 E0 E0 E0 E0 E0 0 0 E0 E0 E0 E0 E0 E0 E0 E0 Xb 0 E0 E0 E0 E0 E0 E0 E0 E0 0 0):=by kernel_rfl
end Go.Proofs.YtnkmbgbpkgmbnaaGreat
