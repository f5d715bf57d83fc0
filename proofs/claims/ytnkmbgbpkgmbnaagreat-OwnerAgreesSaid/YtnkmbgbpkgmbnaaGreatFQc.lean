import Derived.Test.YtnkmbgbpkgmbnaaGreatFQb
open Option renaming some→Xa
open Bool renaming false→Xb,true→Xc
open List renaming length→Xg
set_option linter.unusedVariables false
set_option linter.unusedSimpArgs false
set_option linter.defProp false
namespace Go.Proofs.YtnkmbgbpkgmbnaaGreat
open Go Go.AM
set_option maxRecDepth 100000
noncomputable def Zv4:Fn:=⟨26,[4],[(3,[(3,.box [.int .i64,.int .i64,.int .i64]),(5,.c (.own Xb 45)),(8,.c (.slice 13)),(9,.c (.int .i64)),(10,.c (.int .i64))])],[],0,[],[],Tryz.f175,[.c (.slice 13),.agg [.int .i64,.int .i64,.int .i64]],[.c (.slice 3)],[(176,Zs7.S)]⟩
def ZyA:Zv4.S.Ok Tryz.prog 175:=Zv4.ok Tryz.func175 ⟨ZqR,trivial⟩
noncomputable def Zxi (a:LL) (b c d:Int):Option (LL):=Zv4.S.g [.l a,.i b,.i c,.i d]
noncomputable def ZgO (k:Nat) (a b c:Int) (d e:LL) (f g:Int):Option (LL):=Zv4.lp [0] 0 r0 k [.i a,.i b,.i c,.l d,.l e,.i f,.i g]
def ZlG (k:Nat) (d e f:Int) (b g:LL) (h c:Int):ZgO (k+1) d e f b g h c =
 (if P0 .lss c h then
 Zn g c hs21 fun (a:Qt30)=>
 (Zti a.2.2.1 a.2.2.2.1 (d4 a).1 (d4 a).2.1 (d6 a).1 (d6 a).2.1 (d8 a).1 (d8 a).2.1 (df a).1 (df a).2.1 (dg a) d e f).bind fun i=>
 if i then
 Zl (ZB b (E0++[[I a.2.2.1,I a.2.2.2.1,I (d4 a).1]]) 24)<|
 ZgO k d e f (b++(E0++[[I a.2.2.1,I a.2.2.2.1,I (d4 a).1]])) g h (P1 .add .i64 c 1)
 else
 ZgO k d e f b g h (P1 .add .i64 c 1)
 else
 Xa (b)):=by kernel_rfl
def ZqI (a:LL) (b c d:Int):Zxi a b c d =
 (ZgO ZG b c d E0 a (Xg a:Int) 0):=by kernel_rfl
noncomputable def F98:Fn:=⟨8,[2],[],[],0,[2,5,7],[],Tryz.f98,[.c (.slice 1)],[.c (.own Xc 3)],[]⟩
def ZBR:F98.S.Ok Tryz.prog 98:=F98.ok Tryz.func98
noncomputable def g98 (a:LL):Option (LL):=F98.S.g [.l a]
def Zvi (a:LL):g98 a =
 (Zkn a fun b=>
 if b then
 Xa (E0)
 else
 Zl (ZB E0 a 8)<|
 Xa ((E0++a))):=by kernel_rfl
noncomputable def F50:Fn:=⟨34,[4],[(4,[(0,.box hs5),(1,.c (.int .i64)),(5,.c (.own Xc 76)),(19,.c (.slice 1)),(20,.c (.int .i64)),(21,.c (.int .i64))])],[0],0,[4,5,31],[],Tryz.f50,[.box hs5,.c (.int .i64)],[.c (.own Xc 76)],[(98,F98.S),(95,F95.S)]⟩
def ZAw:F50.S.Ok Tryz.prog 50:=F50.ok Tryz.func50 ⟨ZBR,⟨Zyn,trivial⟩⟩
noncomputable def g50 (a c d:Int) (e:Bool) (f h:LL) (j k m n o p q r s t u v w x y z A C D E:Int) (G:LL) (H J K L M N:Int) (O:Bool) (P:Int) (Q R T:LL) (U:Int):Option (Qt14):=F50.S.g [.i a,.i c,.i d,.b e,.l f,.l h,.i j,.i k,.i m,.i n,.i o,.i p,.i q,.i r,.i s,.i t,.i u,.i v,.i w,.i x,.i y,.i z,.i A,.i C,.i D,.i E,.l G,.i H,.i J,.i K,.i L,.i M,.i N,.b O,.i P,.l Q,.l R,.l T,.i U]
noncomputable def Zpx (k:Nat) (a c d:Int) (e:Bool) (f g:LL) (h j m n o p q r s t u v w x y z A C D E:Int) (G:LL) (H J K L M N:Int) (O:Bool) (P:Int) (Q R T:LL) (U:Int) (V W:LL) (X Y:Int):Option (Qt14):=F50.lp [2] 0 r0 k [.i a,.i c,.i d,.b e,.l f,.l g,.i h,.i j,.i m,.i n,.i o,.i p,.i q,.i r,.i s,.i t,.i u,.i v,.i w,.i x,.i y,.i z,.i A,.i C,.i D,.i E,.l G,.i H,.i J,.i K,.i L,.i M,.i N,.b O,.i P,.l Q,.l R,.l T,.i U,.l V,.l W,.i X,.i Y]
def ZoK (k:Nat) (d e f:Int) (g:Bool) (h i:LL) (j l m n o p q r s t u v w x y z A C D E:Int) (G:LL) (H J K L M N:Int) (O:Bool) (P:Int) (Q R T:LL) (U:Int) (b V:LL) (W c:Int):Zpx (k+1) d e f g h i j l m n o p q r s t u v w x y z A C D E G H J K L M N O P Q R T U b V W c =
 (if P0 .lss c W then
 Zn V c [.int .i64] fun (X:Int)=>
 (g95 d e f g h i j l m n o p q r s t u v w x y z A C D E G H J K L M N O P Q R T U X).bind fun a=>
 Zl (ZB b (E0++[[I a.1,I a.2.1,I a.2.2.1,I a.2.2.2.1,I (d4 a).1,I (d4 a).2.1,I (d6 a).1,I (d6 a).2.1,I (d8 a).1,I (d8 a).2.1,I (df a).1,B (df a).2.1,I (dg a).1,I (dg a).2.1,I (dh a).1,I (dh a).2.1,I (P2 a).1,I (P2 a).2.1,I (d2 (P2 a)).1,I (d2 (P2 a)).2.1,I (d4 (P2 a)).1,I (d4 (P2 a)).2.1,I (d6 (P2 a)).1,I (d6 (P2 a)).2.1,I (d8 (P2 a)).1,I (d8 (P2 a)).2.1,I (df (P2 a)).1,I (df (P2 a)).2.1,I (dg (P2 a)).1,I (dg (P2 a)).2.1,I (dh (P2 a)).1,I (dh (P2 a)).2.1,AV.slice Xb 3 (di a).1,I (di a).2.1,I (d2 (di a)).1,I (d2 (di a)).2.1,I (d4 (di a)).1,I (d4 (di a)).2.1,I (d6 (di a)).1,B (d6 (di a)).2.1,AV.slice Xb 3 (d8 (di a)).1,AV.slice Xb 11 (d8 (di a)).2.1,AV.slice Xb 1 (df (di a)).1,AV.slice Xb 2 (df (di a)).2.1,I (dg (di a)).1,I (dg (di a)).2.1,AV.slice Xb 1 (dh (di a)).1,AV.slice Xb 1 (dh (di a)).2.1,AV.slice Xb 15 (dj a).1,AV.slice Xb 28 (dj a).2.1,AV.slice Xb 4 (d2 (dj a)).1,AV.slice Xb 2 (d2 (dj a)).2.1,AV.slice Xb 13 (d4 (dj a)).1,AV.slice Xb 3 (d4 (dj a)).2.1,I (d6 (dj a)).1,I (d6 (dj a)).2.1,AV.slice Xb 1 (d8 (dj a)).1,AV.slice Xb 1 (d8 (dj a)).2.1,AV.slice Xb 15 (df (dj a)).1,AV.slice Xb 28 (df (dj a)).2.1,AV.slice Xb 4 (dg (dj a)).1,AV.slice Xb 2 (dg (dj a)).2.1,AV.slice Xb 13 (dh (dj a)).1,AV.slice Xb 3 (dh (dj a)).2.1,B (dk a).1,I (dk a).2.1,AV.slice Xb 1 (d2 (dk a)).1,AV.slice Xb 1 (d2 (dk a)).2.1,AV.slice Xb 15 (d4 (dk a)).1,AV.slice Xb 28 (d4 (dk a)).2.1,AV.slice Xb 4 (d6 (dk a)).1,AV.slice Xb 2 (d6 (dk a)).2.1,AV.slice Xb 13 (d8 (dk a)).1,AV.slice Xb 3 (d8 (dk a)).2.1]]) 1056)<|
 Zpx k (df (dk a)).1 (df (dk a)).2.1 (dg (dk a)).1 (dg (dk a)).2.1 (dh (dk a)).1 (dh (dk a)).2.1 (dl a).1 (dl a).2.1 (d2 (dl a)).1 (d2 (dl a)).2.1 (d4 (dl a)).1 (d4 (dl a)).2.1 (d6 (dl a)).1 (d6 (dl a)).2.1 (d8 (dl a)).1 (d8 (dl a)).2.1 (df (dl a)).1 (df (dl a)).2.1 (dg (dl a)).1 (dg (dl a)).2.1 (dh (dl a)).1 (dh (dl a)).2.1 (P2 (dl a)).1 (P2 (dl a)).2.1 (d2 (P2 (dl a))).1 (d2 (P2 (dl a))).2.1 (d4 (P2 (dl a))).1 (d4 (P2 (dl a))).2.1 (d6 (P2 (dl a))).1 (d6 (P2 (dl a))).2.1 (d8 (P2 (dl a))).1 (d8 (P2 (dl a))).2.1 (df (P2 (dl a))).1 (df (P2 (dl a))).2.1 (dg (P2 (dl a))).1 (dg (P2 (dl a))).2.1 (dh (P2 (dl a))).1 (dh (P2 (dl a))).2 U (b++(E0++[[I a.1,I a.2.1,I a.2.2.1,I a.2.2.2.1,I (d4 a).1,I (d4 a).2.1,I (d6 a).1,I (d6 a).2.1,I (d8 a).1,I (d8 a).2.1,I (df a).1,B (df a).2.1,I (dg a).1,I (dg a).2.1,I (dh a).1,I (dh a).2.1,I (P2 a).1,I (P2 a).2.1,I (d2 (P2 a)).1,I (d2 (P2 a)).2.1,I (d4 (P2 a)).1,I (d4 (P2 a)).2.1,I (d6 (P2 a)).1,I (d6 (P2 a)).2.1,I (d8 (P2 a)).1,I (d8 (P2 a)).2.1,I (df (P2 a)).1,I (df (P2 a)).2.1,I (dg (P2 a)).1,I (dg (P2 a)).2.1,I (dh (P2 a)).1,I (dh (P2 a)).2.1,AV.slice Xb 3 (di a).1,I (di a).2.1,I (d2 (di a)).1,I (d2 (di a)).2.1,I (d4 (di a)).1,I (d4 (di a)).2.1,I (d6 (di a)).1,B (d6 (di a)).2.1,AV.slice Xb 3 (d8 (di a)).1,AV.slice Xb 11 (d8 (di a)).2.1,AV.slice Xb 1 (df (di a)).1,AV.slice Xb 2 (df (di a)).2.1,I (dg (di a)).1,I (dg (di a)).2.1,AV.slice Xb 1 (dh (di a)).1,AV.slice Xb 1 (dh (di a)).2.1,AV.slice Xb 15 (dj a).1,AV.slice Xb 28 (dj a).2.1,AV.slice Xb 4 (d2 (dj a)).1,AV.slice Xb 2 (d2 (dj a)).2.1,AV.slice Xb 13 (d4 (dj a)).1,AV.slice Xb 3 (d4 (dj a)).2.1,I (d6 (dj a)).1,I (d6 (dj a)).2.1,AV.slice Xb 1 (d8 (dj a)).1,AV.slice Xb 1 (d8 (dj a)).2.1,AV.slice Xb 15 (df (dj a)).1,AV.slice Xb 28 (df (dj a)).2.1,AV.slice Xb 4 (dg (dj a)).1,AV.slice Xb 2 (dg (dj a)).2.1,AV.slice Xb 13 (dh (dj a)).1,AV.slice Xb 3 (dh (dj a)).2.1,B (dk a).1,I (dk a).2.1,AV.slice Xb 1 (d2 (dk a)).1,AV.slice Xb 1 (d2 (dk a)).2.1,AV.slice Xb 15 (d4 (dk a)).1,AV.slice Xb 28 (d4 (dk a)).2.1,AV.slice Xb 4 (d6 (dk a)).1,AV.slice Xb 2 (d6 (dk a)).2.1,AV.slice Xb 13 (d8 (dk a)).1,AV.slice Xb 3 (d8 (dk a)).2.1]])) V W (P1 .add .i64 c 1)
 else
 Xa (b,d,e,f,g,h,i,j,l,m,n,o,p,q,r,s,t,u,v,w,x,y,z,A,C,D,E,G,H,J,K,L,M,N,O,P,Q,R,T)):=by kernel_rfl
def Zuf (b c d:Int) (e:Bool) (f g:LL) (h i j k l m n o p q r s t u v w x y z A:Int) (C:LL) (D E G H J K:Int) (L:Bool) (M:Int) (P a N:LL) (O:Int):g50 b c d e f g h i j k l m n o p q r s t u v w x y z A C D E G H J K L M P a N O =
 ((g98 a).bind fun Q=>
 Zpx ZG b c d e f g h i j k l m n o p q r s t u v w x y z A C D E G H J K L M Q a N O E0 a (Xg a:Int) 0):=by kernel_rfl
noncomputable def Zs2:Fn:=⟨92,[4],[(6,[(0,.box hs5),(3,.box hs24),(5,.mref 28 0),(39,.c (.slice 13)),(40,.c (.int .i64)),(41,.c (.int .i64)),(28,.c (.own Xc 1048801))]),(15,[(0,.box hs5),(5,.mref 28 0),(8,.c (.own Xc 76)),(75,.c (.int .i64)),(76,.c (.int .i64)),(28,.c (.own Xc 1048801))])],[0],0,[],[(19,[(8,0)])],Tryz.f135,[.box hs5,.agg hs24],[.c (.own Xb 76)],[(175,Zv4.S),(48,F48.S),(176,Zs7.S),(50,F50.S)]⟩
def Zyq:Zs2.S.Ok Tryz.prog 135:=Zs2.ok Tryz.func135 ⟨ZyA,⟨Zwh,⟨ZqR,⟨ZAw,trivial⟩⟩⟩⟩
noncomputable def Zs0 (a c d:Int) (e:Bool) (f h:LL) (j k m n o p q r s t u v w x y z A C D E:Int) (G:LL) (H J K L M N:Int) (O:Bool) (P:Int) (Q R T:LL) (U V W:Int) (X:LL) (Y Z aa ab ac ad:Int) (ae:Bool):Option (Qt14):=Zs2.S.g [.i a,.i c,.i d,.b e,.l f,.l h,.i j,.i k,.i m,.i n,.i o,.i p,.i q,.i r,.i s,.i t,.i u,.i v,.i w,.i x,.i y,.i z,.i A,.i C,.i D,.i E,.l G,.i H,.i J,.i K,.i L,.i M,.i N,.b O,.i P,.l Q,.l R,.l T,.i U,.i V,.i W,.l X,.i Y,.i Z,.i aa,.i ab,.i ac,.i ad,.b ae]
noncomputable def Zed (k:Nat) (a c d:Int) (e:Bool) (f g:LL) (h j m n o p q r s t u v w x y z A C D E:Int) (G:LL) (H J K L M N:Int) (O:Bool) (P:Int) (Q R T U:LL) (V W:Int) (X:LL):Option (Qt14):=Zs2.lp [0,1,2,1,4] 0 r0 k [.i a,.i c,.i d,.b e,.l f,.l g,.i h,.i j,.i m,.i n,.i o,.i p,.i q,.i r,.i s,.i t,.i u,.i v,.i w,.i x,.i y,.i z,.i A,.i C,.i D,.i E,.l G,.i H,.i J,.i K,.i L,.i M,.i N,.b O,.i P,.l Q,.l R,.l T,.l U,.i V,.i W,.l X]
def ZlN (k:Nat) (d e f:Int) (g:Bool) (h i:LL) (j l m n o p q r s t u v w x y z A C D E:Int) (G:LL) (H J K L M N:Int) (O:Bool) (P:Int) (Q R T b:LL) (U a:Int) (c:LL):Zed (k+1) d e f g h i j l m n o p q r s t u v w x y z A C D E G H J K L M N O P Q R T b U a c =
 (if P0 .lss a U then
 Zl ((0:Int)≤a)<|
 Zl ((a:Int) < (Xg b:Int))<|
 Zn b a hs0 fun (V:Qt4)=>
 Zl (Zbz .any c 0=Xc)<|
 Zl ((0:Int)≤a)<|
 Zl ((a:Int) < (Xg b:Int))<|
 Zl ((0:Int)≤a)<|
 Zl ((a:Int) < (Xg b:Int))<|
 Zed k d e f g h i j l m n o p q r s t u v w x y z A C D E G H J K L M N O P Q R T (Zw b (Int.toNat a) 40 [AV.slice Xb 3 (J4 c V.2.2.2.1)]) U (P1 .add .i64 a 1) c
 else
 Xa (b,d,e,f,g,h,i,j,l,m,n,o,p,q,r,s,t,u,v,w,x,y,z,A,C,D,E,G,H,J,K,L,M,N,O,P,Q,R,T)):=by kernel_rfl
noncomputable def Zg4 (k:Nat) (a c d:Int) (e:Bool) (f g:LL) (h j m n o p q r s t u v w x y z A C D E:Int) (G:LL) (H J K L M N:Int) (O:Bool) (P:Int) (Q R T:LL) (U V W:Int) (X:LL) (Y Z S ab ac ad:Int) (ae:Bool) (af:LL) (ag ah:Int) (ai:LL):Option (Qt14):=Zs2.lp [0,1,2] 0 r0 k [.i a,.i c,.i d,.b e,.l f,.l g,.i h,.i j,.i m,.i n,.i o,.i p,.i q,.i r,.i s,.i t,.i u,.i v,.i w,.i x,.i y,.i z,.i A,.i C,.i D,.i E,.l G,.i H,.i J,.i K,.i L,.i M,.i N,.b O,.i P,.l Q,.l R,.l T,.i U,.i V,.i W,.l X,.i Y,.i Z,.i S,.i ab,.i ac,.i ad,.b ae,.l af,.i ag,.i ah,.l ai]
def ZmT (k:Nat) (d e f:Int) (g:Bool) (h i:LL) (j l m n o p q r s t u v w x y z A C D E:Int) (G:LL) (H J K L M N:Int) (O:Bool) (X:Int) (P Y Q:LL) (R T U:Int) (Z:LL) (S ab ac ad ae af:Int) (ag:Bool) (V:LL) (W c:Int) (b:LL):Zg4 (k+1) d e f g h i j l m n o p q r s t u v w x y z A C D E G H J K L M N O X P Y Q R T U Z S ab ac ad ae af ag V W c b =
 (if P0 .lss c W then
 Zn V c hs21 fun (a:Qt30)=>
 (Zti a.2.2.1 a.2.2.2.1 (d4 a).1 (d4 a).2.1 (d6 a).1 (d6 a).2.1 (d8 a).1 (d8 a).2.1 (df a).1 (df a).2.1 (dg a) R T U).bind fun ah=>
 if ah then
 Zl (Zbz .full b 0=Xc)<|
 Zl (ZB (J4 b a.1) (E0++[[I a.2.2.1,I a.2.2.2.1,I (d4 a).1]]) 24)<|
 Zl (Zbz .at (YW b a.1) a.1=Xc)<|
 Zg4 k d e f g h i j l m n o p q r s t u v w x y z A C D E G H J K L M N O X P Y Q R T U Z S ab ac ad ae af ag V W (P1 .add .i64 c 1) (KQ (YW b a.1) a.1 3 ((J4 b a.1)++(E0++[[I a.2.2.1,I a.2.2.2.1,I (d4 a).1]])))
 else
 Zg4 k d e f g h i j l m n o p q r s t u v w x y z A C D E G H J K L M N O X P Y Q R T U Z S ab ac ad ae af ag V W (P1 .add .i64 c 1) b
 else
 Zl (Zbz .any b 0=Xc)<|
 Zl (Zbz .keys b 0=Xc)<|
 (g50 d e f g h i j l m n o p q r s t u v w x y z A C D E G H J K L M N O 2 P (VR b) Q 6).bind fun a=>
 Zed ZG a.2.1 a.2.2.1 a.2.2.2.1 (d4 a).1 (d4 a).2.1 (d6 a).1 (d6 a).2.1 (d8 a).1 (d8 a).2.1 (df a).1 (df a).2.1 (dg a).1 (dg a).2.1 (dh a).1 (dh a).2.1 (P2 a).1 (P2 a).2.1 (d2 (P2 a)).1 (d2 (P2 a)).2.1 (d4 (P2 a)).1 (d4 (P2 a)).2.1 (d6 (P2 a)).1 (d6 (P2 a)).2.1 (d8 (P2 a)).1 (d8 (P2 a)).2.1 (df (P2 a)).1 (df (P2 a)).2.1 (dg (P2 a)).1 (dg (P2 a)).2.1 (dh (P2 a)).1 (dh (P2 a)).2.1 (di a).1 (di a).2.1 (d2 (di a)).1 (d2 (di a)).2.1 (d4 (di a)).1 (d4 (di a)).2.1 (d6 (di a)) a.1 (Xg a.1:Int) 0 b):=by kernel_rfl
def Zk3 (d e f:Int) (g:Bool) (b h:LL) (c i j k l m n o p q r s t u v w x y z A:Int) (C:LL) (D E G H J K:Int) (L:Bool) (M:Int) (N O ac:LL) (P Q R:Int) (U:LL) (V W X Y Z S:Int) (ab:Bool):Zs0 d e f g b h c i j k l m n o p q r s t u v w x y z A C D E G H J K L M N O ac P Q R U V W X Y Z S ab =
 ((Zxi b P Q R).bind fun T=>
 if P0 .eql (Xg T:Int) 0 then
 (g48 d e f g b h c i j k l m n o p q r s t u v w x y z A C D E G H J K L M N O T 0 Xb E0).bind fun a=>
 Xa (a.1,a.2.1,a.2.2.1,a.2.2.2.1,(d4 a).1,(d4 a).2.1,(d6 a).1,(d6 a).2.1,(d8 a).1,(d8 a).2.1,(df a).1,(df a).2.1,(dg a).1,(dg a).2.1,(dh a).1,(dh a).2.1,(P2 a).1,(P2 a).2.1,(d2 (P2 a)).1,(d2 (P2 a)).2.1,(d4 (P2 a)).1,(d4 (P2 a)).2.1,(d6 (P2 a)).1,(d6 (P2 a)).2.1,(d8 (P2 a)).1,(d8 (P2 a)).2.1,(df (P2 a)).1,(df (P2 a)).2.1,(dg (P2 a)).1,(dg (P2 a)).2.1,(dh (P2 a)).1,(dh (P2 a)).2.1,(di a).1,(di a).2.1,(d2 (di a)).1,(d2 (di a)).2.1,(d4 (di a)).1,(d4 (di a)).2.1,(d6 (di a)))
 else
 Zl (Zbz .at (E0++[[AV.slice Xb 2 E0]]) c=Xc)<|
 Zg4 ZG d e f g b h c i j k l m n o p q r s t u v w x y z A C D E G H J K L M N O T P Q R U V W X Y Z S ab b (Xg b:Int) 0 (KQ (E0++[[AV.slice Xb 2 E0]]) c 3 E0)):=by kernel_rfl
noncomputable def F85:Fn:=⟨75,[2],[],[0],0,[],[],Tryz.f85,[.box hs5],[.c (.own Xb 76)],[(130,ZwK.S),(129,ZuO.S),(131,ZtP.S),(132,Zvf.S),(133,Zw1.S),(134,ZsX.S),(48,F48.S),(47,F47.S),(135,Zs2.S)]⟩
def ZBb:F85.S.Ok Tryz.prog 85:=F85.ok Tryz.func85 ⟨ZyW,⟨ZxU,⟨ZyD,⟨Ztw,⟨Zy7,⟨ZrO,⟨Zwh,⟨ZAt,⟨Zyq,trivial⟩⟩⟩⟩⟩⟩⟩⟩⟩
noncomputable def g85 (a c d:Int) (e:Bool) (f h:LL) (j k m n o p q r s t u v w x y z A C D E:Int) (G:LL) (H J K L M N:Int) (O:Bool) (P:Int) (Q R T:LL):Option (Qt14):=F85.S.g [.i a,.i c,.i d,.b e,.l f,.l h,.i j,.i k,.i m,.i n,.i o,.i p,.i q,.i r,.i s,.i t,.i u,.i v,.i w,.i x,.i y,.i z,.i A,.i C,.i D,.i E,.l G,.i H,.i J,.i K,.i L,.i M,.i N,.b O,.i P,.l Q,.l R,.l T]
def ZdJ (g h i:Int) (j:Bool) (k l:LL) (f m n e o p q r s t u v w x y z A C D E:Int) (G:LL) (H J K L M N:Int) (O:Bool) (P:Int) (Q R T:LL):g85 g h i j k l f m n e o p q r s t u v w x y z A C D E G H J K L M N O P Q R T =
 (if P0 .eql e 1 then
 (ZvM g h i j k l f m n e o p q r s t u v w x y z A C D E G H J K L M N O P Q R T).bind fun a=>
 (Zmc a.2.2.1 a.2.2.2.1 (d4 a).1 (d4 a).2.1 (d6 a).1 (d6 a).2.1 (d8 a).1 (d8 a).2.1 (df a).1 (df a).2.1 (dg a).1 (dg a).2.1 (dh a).1 (dh a).2.1 (P2 a).1 (P2 a).2.1 (d2 (P2 a)).1 (d2 (P2 a)).2.1 (d4 (P2 a)).1 (d4 (P2 a)).2.1 (d6 (P2 a)).1 (d6 (P2 a)).2.1 (d8 (P2 a)).1 (d8 (P2 a)).2.1 (df (P2 a)).1 (df (P2 a)).2.1 (dg (P2 a)).1 (dg (P2 a)).2.1 (dh (P2 a)).1 (dh (P2 a)).2.1 (di a).1 (di a).2.1 (d2 (di a)).1 (d2 (di a)).2.1 (d4 (di a)).1 (d4 (di a)).2.1 (d6 (di a)).1 (d6 (di a)).2 a.1 a.2.1).bind fun b=>
 Xa (b.1,b.2.1,b.2.2.1,b.2.2.2.1,(d4 b).1,(d4 b).2.1,(d6 b).1,(d6 b).2.1,(d8 b).1,(d8 b).2.1,(df b).1,(df b).2.1,(dg b).1,(dg b).2.1,(dh b).1,(dh b).2.1,(P2 b).1,(P2 b).2.1,(d2 (P2 b)).1,(d2 (P2 b)).2.1,(d4 (P2 b)).1,(d4 (P2 b)).2.1,(d6 (P2 b)).1,(d6 (P2 b)).2.1,(d8 (P2 b)).1,(d8 (P2 b)).2.1,(df (P2 b)).1,(df (P2 b)).2.1,(dg (P2 b)).1,(dg (P2 b)).2.1,(dh (P2 b)).1,(dh (P2 b)).2.1,(di b).1,(di b).2.1,(d2 (di b)).1,(d2 (di b)).2.1,(d4 (di b)).1,(d4 (di b)).2.1,(d6 (di b)))
 else
 if P0 .eql e 2 then
 (Zwe g h i j k l f m n e o p q r s t u v w x y z A C D E G H J K L M N O P Q R T).bind fun a=>
 (Zmc a.2.2.1 a.2.2.2.1 (d4 a).1 (d4 a).2.1 (d6 a).1 (d6 a).2.1 (d8 a).1 (d8 a).2.1 (df a).1 (df a).2.1 (dg a).1 (dg a).2.1 (dh a).1 (dh a).2.1 (P2 a).1 (P2 a).2.1 (d2 (P2 a)).1 (d2 (P2 a)).2.1 (d4 (P2 a)).1 (d4 (P2 a)).2.1 (d6 (P2 a)).1 (d6 (P2 a)).2.1 (d8 (P2 a)).1 (d8 (P2 a)).2.1 (df (P2 a)).1 (df (P2 a)).2.1 (dg (P2 a)).1 (dg (P2 a)).2.1 (dh (P2 a)).1 (dh (P2 a)).2.1 (di a).1 (di a).2.1 (d2 (di a)).1 (d2 (di a)).2.1 (d4 (di a)).1 (d4 (di a)).2.1 (d6 (di a)).1 (d6 (di a)).2 a.1 a.2.1).bind fun b=>
 Xa (b.1,b.2.1,b.2.2.1,b.2.2.2.1,(d4 b).1,(d4 b).2.1,(d6 b).1,(d6 b).2.1,(d8 b).1,(d8 b).2.1,(df b).1,(df b).2.1,(dg b).1,(dg b).2.1,(dh b).1,(dh b).2.1,(P2 b).1,(P2 b).2.1,(d2 (P2 b)).1,(d2 (P2 b)).2.1,(d4 (P2 b)).1,(d4 (P2 b)).2.1,(d6 (P2 b)).1,(d6 (P2 b)).2.1,(d8 (P2 b)).1,(d8 (P2 b)).2.1,(df (P2 b)).1,(df (P2 b)).2.1,(dg (P2 b)).1,(dg (P2 b)).2.1,(dh (P2 b)).1,(dh (P2 b)).2.1,(di b).1,(di b).2.1,(d2 (di b)).1,(d2 (di b)).2.1,(d4 (di b)).1,(d4 (di b)).2.1,(d6 (di b)))
 else
 if P0 .eql e 3 then
 (Ztf g h i j k l f m n e o p q r s t u v w x y z A C D E G H J K L M N O P Q R T f).bind fun a=>
 (Zmc a.2.2.1 a.2.2.2.1 (d4 a).1 (d4 a).2.1 (d6 a).1 (d6 a).2.1 (d8 a).1 (d8 a).2.1 (df a).1 (df a).2.1 (dg a).1 (dg a).2.1 (dh a).1 (dh a).2.1 (P2 a).1 (P2 a).2.1 (d2 (P2 a)).1 (d2 (P2 a)).2.1 (d4 (P2 a)).1 (d4 (P2 a)).2.1 (d6 (P2 a)).1 (d6 (P2 a)).2.1 (d8 (P2 a)).1 (d8 (P2 a)).2.1 (df (P2 a)).1 (df (P2 a)).2.1 (dg (P2 a)).1 (dg (P2 a)).2.1 (dh (P2 a)).1 (dh (P2 a)).2.1 (di a).1 (di a).2.1 (d2 (di a)).1 (d2 (di a)).2.1 (d4 (di a)).1 (d4 (di a)).2.1 (d6 (di a)).1 (d6 (di a)).2 a.1 a.2.1).bind fun b=>
 Xa (b.1,b.2.1,b.2.2.1,b.2.2.2.1,(d4 b).1,(d4 b).2.1,(d6 b).1,(d6 b).2.1,(d8 b).1,(d8 b).2.1,(df b).1,(df b).2.1,(dg b).1,(dg b).2.1,(dh b).1,(dh b).2.1,(P2 b).1,(P2 b).2.1,(d2 (P2 b)).1,(d2 (P2 b)).2.1,(d4 (P2 b)).1,(d4 (P2 b)).2.1,(d6 (P2 b)).1,(d6 (P2 b)).2.1,(d8 (P2 b)).1,(d8 (P2 b)).2.1,(df (P2 b)).1,(df (P2 b)).2.1,(dg (P2 b)).1,(dg (P2 b)).2.1,(dh (P2 b)).1,(dh (P2 b)).2.1,(di b).1,(di b).2.1,(d2 (di b)).1,(d2 (di b)).2.1,(d4 (di b)).1,(d4 (di b)).2.1,(d6 (di b)))
 else
 if P0 .eql e 4 then
 (ZsS g h i j k l f m n e o p q r s t u v w x y z A C D E G H J K L M N O P Q R T).bind fun a=>
 Xa (a.1,a.2.1,a.2.2.1,a.2.2.2.1,(d4 a).1,(d4 a).2.1,(d6 a).1,(d6 a).2.1,(d8 a).1,(d8 a).2.1,(df a).1,(df a).2.1,(dg a).1,(dg a).2.1,(dh a).1,(dh a).2.1,(P2 a).1,(P2 a).2.1,(d2 (P2 a)).1,(d2 (P2 a)).2.1,(d4 (P2 a)).1,(d4 (P2 a)).2.1,(d6 (P2 a)).1,(d6 (P2 a)).2.1,(d8 (P2 a)).1,(d8 (P2 a)).2.1,(df (P2 a)).1,(df (P2 a)).2.1,(dg (P2 a)).1,(dg (P2 a)).2.1,(dh (P2 a)).1,(dh (P2 a)).2.1,(di a).1,(di a).2.1,(d2 (di a)).1,(d2 (di a)).2.1,(d4 (di a)).1,(d4 (di a)).2.1,(d6 (di a)))
 else
 (Zs6 g h i j k l f m n e o p q r s t u v w x y z A C D E G H J K L M N O P Q R T).bind fun a=>
 if (!(df a).2.1) then
 (g48 (dg a).1 (dg a).2.1 (dh a).1 (dh a).2.1 (P2 a).1 (P2 a).2.1 (d2 (P2 a)).1 (d2 (P2 a)).2.1 (d4 (P2 a)).1 (d4 (P2 a)).2.1 (d6 (P2 a)).1 (d6 (P2 a)).2.1 (d8 (P2 a)).1 (d8 (P2 a)).2.1 (df (P2 a)).1 (df (P2 a)).2.1 (dg (P2 a)).1 (dg (P2 a)).2.1 (dh (P2 a)).1 (dh (P2 a)).2.1 (di a).1 (di a).2.1 (d2 (di a)).1 (d2 (di a)).2.1 (d4 (di a)).1 (d4 (di a)).2.1 (d6 (di a)).1 (d6 (di a)).2.1 (d8 (di a)).1 (d8 (di a)).2.1 (df (di a)).1 (df (di a)).2.1 (dg (di a)).1 (dg (di a)).2.1 (dh (di a)).1 (dh (di a)).2.1 (dj a).1 (dj a).2 2 Xb E0).bind fun c=>
 Xa (c.1,c.2.1,c.2.2.1,c.2.2.2.1,(d4 c).1,(d4 c).2.1,(d6 c).1,(d6 c).2.1,(d8 c).1,(d8 c).2.1,(df c).1,(df c).2.1,(dg c).1,(dg c).2.1,(dh c).1,(dh c).2.1,(P2 c).1,(P2 c).2.1,(d2 (P2 c)).1,(d2 (P2 c)).2.1,(d4 (P2 c)).1,(d4 (P2 c)).2.1,(d6 (P2 c)).1,(d6 (P2 c)).2.1,(d8 (P2 c)).1,(d8 (P2 c)).2.1,(df (P2 c)).1,(df (P2 c)).2.1,(dg (P2 c)).1,(dg (P2 c)).2.1,(dh (P2 c)).1,(dh (P2 c)).2.1,(di c).1,(di c).2.1,(d2 (di c)).1,(d2 (di c)).2.1,(d4 (di c)).1,(d4 (di c)).2.1,(d6 (di c)))
 else
 if P0 .eql e 5 then
 (g47 (P2 a).1 a.1 a.2.1 a.2.2.1).bind fun c=>
 (g48 (dg a).1 (dg a).2.1 (dh a).1 (dh a).2.1 c.1 (P2 a).2.1 (d2 (P2 a)).1 (d2 (P2 a)).2.1 (d4 (P2 a)).1 (d4 (P2 a)).2.1 (d6 (P2 a)).1 (d6 (P2 a)).2.1 (d8 (P2 a)).1 (d8 (P2 a)).2.1 (df (P2 a)).1 (df (P2 a)).2.1 (dg (P2 a)).1 (dg (P2 a)).2.1 (dh (P2 a)).1 (dh (P2 a)).2.1 (di a).1 (di a).2.1 (d2 (di a)).1 (d2 (di a)).2.1 (d4 (di a)).1 (d4 (di a)).2.1 (d6 (di a)).1 (d6 (di a)).2.1 (d8 (di a)).1 (d8 (di a)).2.1 (df (di a)).1 (df (di a)).2.1 (dg (di a)).1 (dg (di a)).2.1 (dh (di a)).1 (dh (di a)).2.1 (dj a).1 (dj a).2 0 Xb E0).bind fun d=>
 Xa (d.1,d.2.1,d.2.2.1,d.2.2.2.1,(d4 d).1,(d4 d).2.1,(d6 d).1,(d6 d).2.1,(d8 d).1,(d8 d).2.1,(df d).1,(df d).2.1,(dg d).1,(dg d).2.1,(dh d).1,(dh d).2.1,(P2 d).1,(P2 d).2.1,(d2 (P2 d)).1,(d2 (P2 d)).2.1,(d4 (P2 d)).1,(d4 (P2 d)).2.1,(d6 (P2 d)).1,(d6 (P2 d)).2.1,(d8 (P2 d)).1,(d8 (P2 d)).2.1,(df (P2 d)).1,(df (P2 d)).2.1,(dg (P2 d)).1,(dg (P2 d)).2.1,(dh (P2 d)).1,(dh (P2 d)).2.1,(di d).1,(di d).2.1,(d2 (di d)).1,(d2 (di d)).2.1,(d4 (di d)).1,(d4 (di d)).2.1,(d6 (di d)))
 else
 (Zs0 (dg a).1 (dg a).2.1 (dh a).1 (dh a).2.1 (P2 a).1 (P2 a).2.1 (d2 (P2 a)).1 (d2 (P2 a)).2.1 (d4 (P2 a)).1 (d4 (P2 a)).2.1 (d6 (P2 a)).1 (d6 (P2 a)).2.1 (d8 (P2 a)).1 (d8 (P2 a)).2.1 (df (P2 a)).1 (df (P2 a)).2.1 (dg (P2 a)).1 (dg (P2 a)).2.1 (dh (P2 a)).1 (dh (P2 a)).2.1 (di a).1 (di a).2.1 (d2 (di a)).1 (d2 (di a)).2.1 (d4 (di a)).1 (d4 (di a)).2.1 (d6 (di a)).1 (d6 (di a)).2.1 (d8 (di a)).1 (d8 (di a)).2.1 (df (di a)).1 (df (di a)).2.1 (dg (di a)).1 (dg (di a)).2.1 (dh (di a)).1 (dh (di a)).2.1 (dj a).1 (dj a).2 a.1 a.2.1 a.2.2.1 a.2.2.2.1 (d4 a).1 (d4 a).2.1 (d6 a).1 (d6 a).2.1 (d8 a).1 (d8 a).2.1 (df a).1).bind fun c=>
 Xa (c.1,c.2.1,c.2.2.1,c.2.2.2.1,(d4 c).1,(d4 c).2.1,(d6 c).1,(d6 c).2.1,(d8 c).1,(d8 c).2.1,(df c).1,(df c).2.1,(dg c).1,(dg c).2.1,(dh c).1,(dh c).2.1,(P2 c).1,(P2 c).2.1,(d2 (P2 c)).1,(d2 (P2 c)).2.1,(d4 (P2 c)).1,(d4 (P2 c)).2.1,(d6 (P2 c)).1,(d6 (P2 c)).2.1,(d8 (P2 c)).1,(d8 (P2 c)).2.1,(df (P2 c)).1,(df (P2 c)).2.1,(dg (P2 c)).1,(dg (P2 c)).2.1,(dh (P2 c)).1,(dh (P2 c)).2.1,(di c).1,(di c).2.1,(d2 (di c)).1,(d2 (di c)).2.1,(d4 (di c)).1,(d4 (di c)).2.1,(d6 (di c)))):=by kernel_rfl
noncomputable def F84.S:Fun:=ZwG Xc 56
def ZB5:F84.S.Ok Tryz.prog 84:=delF_ok (T:=68) (B:=4) (I:=3) (U:=0) (e:=56) (bytes:=240) mixed (by kernel_rfl) Tryz.func84 (by kernel_rfl) ⟨by kernel_rfl,by kernel_rfl,by kernel_rfl⟩
noncomputable def g84 (a:LL) (b c:Int):Option LL:=F84.S.g [.l a,.i b,.i c]
def ZvG (a:LL) (b c:Int):g84 a b c=ZqB a b c:=rfl
noncomputable def F43:Fn:=⟨35,[2],[],[0],0,[],[],Tryz.f43,[.box hs5],[.c (.own Xb 76)],[(84,F84.S),(85,F85.S)]⟩
def ZAk:F43.S.Ok Tryz.prog 43:=F43.ok Tryz.func43 ⟨ZB5,⟨ZBb,trivial⟩⟩
noncomputable def g43 (a c d:Int) (e:Bool) (f h:LL) (j k m n o p q r s t u v w x y z A C D E:Int) (G:LL) (H J K L M N:Int) (O:Bool) (P:Int) (Q R T:LL):Option (Qt14):=F43.S.g [.i a,.i c,.i d,.b e,.l f,.l h,.i j,.i k,.i m,.i n,.i o,.i p,.i q,.i r,.i s,.i t,.i u,.i v,.i w,.i x,.i y,.i z,.i A,.i C,.i D,.i E,.l G,.i H,.i J,.i K,.i L,.i M,.i N,.b O,.i P,.l Q,.l R,.l T]
def Zqr (e f g:Int) (h:Bool) (i c:LL) (m n o p q r s t u v w x y z A C D E G H:Int) (J:LL) (K L M O P Q:Int) (R:Bool) (d:Int) (j k l:LL):g43 e f g h i c m n o p q r s t u v w x y z A C D E G H J K L M O P Q R d j k l =
 (if P0 .neq d 0 then
 Xa (E0,e,f,g,h,i,c,m,n,o,p,q,r,s,t,u,v,w,x,y,z,A,C,D,E,G,H,J,K,L,M,O,P,Q,R,d,j,k,l)
 else
 if P0 .eql (Xg c:Int) 0 then
 Xa (E0,e,f,g,h,i,c,m,n,o,p,q,r,s,t,u,v,w,x,y,z,A,C,D,E,G,H,J,K,L,M,O,P,Q,R,d,j,k,l)
 else
 Zl ((0:Int)≤0)<|
 Zl ((0:Int) < (Xg c:Int))<|
 Zn c 0 hs9 fun (b:Qt19)=>
 (g84 c 0 1).bind fun T=>
 (g85 e f g h i T b.1 b.2.1 b.2.2.1 b.2.2.2.1 (d4 b).1 (d4 b).2.1 (d6 b).1 (d6 b).2.1 (d8 b).1 (d8 b).2.1 (df b).1 (df b).2.1 (dg b).1 (dg b).2.1 (dh b).1 (dh b).2.1 (P2 b).1 (P2 b).2.1 (d2 (P2 b)).1 (d2 (P2 b)).2.1 (d4 (P2 b)).1 (d4 (P2 b)).2.1 (d6 (P2 b)).1 (d6 (P2 b)).2.1 (d8 (P2 b)).1 (d8 (P2 b)).2.1 (df (P2 b)).1 (df (P2 b)).2 d j k l).bind fun a=>
 Xa (a.1,a.2.1,a.2.2.1,a.2.2.2.1,(d4 a).1,(d4 a).2.1,(d6 a).1,(d6 a).2.1,(d8 a).1,(d8 a).2.1,(df a).1,(df a).2.1,(dg a).1,(dg a).2.1,(dh a).1,(dh a).2.1,(P2 a).1,(P2 a).2.1,(d2 (P2 a)).1,(d2 (P2 a)).2.1,(d4 (P2 a)).1,(d4 (P2 a)).2.1,(d6 (P2 a)).1,(d6 (P2 a)).2.1,(d8 (P2 a)).1,(d8 (P2 a)).2.1,(df (P2 a)).1,(df (P2 a)).2.1,(dg (P2 a)).1,(dg (P2 a)).2.1,(dh (P2 a)).1,(dh (P2 a)).2.1,(di a).1,(di a).2.1,(d2 (di a)).1,(d2 (di a)).2.1,(d4 (di a)).1,(d4 (di a)).2.1,(d6 (di a)))):=by kernel_rfl
end Go.Proofs.YtnkmbgbpkgmbnaaGreat
