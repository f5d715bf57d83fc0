import Derived.Test.YtnkmbgbpkgmbnaaGreatFQa
open Option renaming some→Xa
open Bool renaming false→Xb
open List renaming length→Xg
set_option linter.unusedVariables false
set_option linter.unusedSimpArgs false
set_option linter.defProp false
namespace Go.Proofs.YtnkmbgbpkgmbnaaGreat
open Go Go.AM
set_option maxRecDepth 100000
noncomputable def F95:Fn:=⟨19,[6],[],[0],0,[],[],Tryz.f95,[.box hs5,.c (.int .i64),.c (.int .i64)],[.agg hs0],[]⟩
def Zyn:F95.S.Ok Tryz.prog 95:=F95.ok Tryz.func95
noncomputable def g95 (a c d:Int) (e:Bool) (f h:LL) (j k m n o p q r s t u v w x y z A C D E:Int) (G:LL) (H J K L M N:Int) (O:Bool) (P:Int) (Q R T:LL) (U V:Int):Option (Qt2):=F95.S.g [.i a,.i c,.i d,.b e,.l f,.l h,.i j,.i k,.i m,.i n,.i o,.i p,.i q,.i r,.i s,.i t,.i u,.i v,.i w,.i x,.i y,.i z,.i A,.i C,.i D,.i E,.l G,.i H,.i J,.i K,.i L,.i M,.i N,.b O,.i P,.l Q,.l R,.l T,.i U,.i V]
def ZmW (a e f:Int) (g:Bool) (h i:LL) (b c d j k l m n o p q r s t u v w x y z:Int) (A:LL) (C D E G H J:Int) (K:Bool) (L:Int) (M N O:LL) (P Q:Int):g95 a e f g h i b c d j k l m n o p q r s t u v w x y z A C D E G H J K L M N O P Q =
 (Xa (P,0,0,Q,0,a,0,b,c,d,0,Xb,0,0,0,0,0,0,0,0,0,0,0,0,0,0,0,0,0,0,0,0,E0,0,0,0,0,0,0,Xb,E0,E0,E0,E0,0,0,E0,E0,E0,E0,E0,E0,E0,E0,0,0,E0,E0,E0,E0,E0,E0,E0,E0,Xb,0,E0,E0,E0,E0,E0,E0,E0,E0,a,e,f,g,h,i,b,c,d,j,k,l,m,n,o,p,q,r,s,t,u,v,w,x,y,z,A,C,D,E,G,H,J,K,L,M,N,O)):=by kernel_rfl
noncomputable def F48:Fn:=⟨32,[8],[],[0],0,[],[],Tryz.f48,[.box hs5,.c (.int .i64),.c (.bool),.c (.slice 11)],[.c (.own Xb 76)],[(95,F95.S)]⟩
def Zwh:F48.S.Ok Tryz.prog 48:=F48.ok Tryz.func48 ⟨Zyn,trivial⟩
noncomputable def g48 (a c d:Int) (e:Bool) (f h:LL) (j k m n o p q r s t u v w x y z A C D E:Int) (G:LL) (H J K L M N:Int) (O:Bool) (P:Int) (Q R T:LL) (U:Int) (V:Bool) (W:LL):Option (Qt14):=F48.S.g [.i a,.i c,.i d,.b e,.l f,.l h,.i j,.i k,.i m,.i n,.i o,.i p,.i q,.i r,.i s,.i t,.i u,.i v,.i w,.i x,.i y,.i z,.i A,.i C,.i D,.i E,.l G,.i H,.i J,.i K,.i L,.i M,.i N,.b O,.i P,.l Q,.l R,.l T,.i U,.b V,.l W]
def Zv3 (c d e:Int) (f:Bool) (g h:LL) (b i j k l m n o p q r s t u v w x y z A:Int) (C:LL) (D E G H J K:Int) (L:Bool) (R:Int) (T M N:LL) (O:Int) (P:Bool) (Q:LL):g48 c d e f g h b i j k l m n o p q r s t u v w x y z A C D E G H J K L R T M N O P Q =
 ((g95 c d e f g h b i j k l m n o p q r s t u v w x y z A C D E G H J K L 5 E0 M N 2 b).bind fun a=>
 Xa ((E0++[[I a.1,I a.2.1,I a.2.2.1,I a.2.2.2.1,I (d4 a).1,I (d4 a).2.1,I (d6 a).1,I (d6 a).2.1,I (d8 a).1,I (d8 a).2.1,I O,B P,I (dg a).1,I (dg a).2.1,I (dh a).1,I (dh a).2.1,I (P2 a).1,I (P2 a).2.1,I (d2 (P2 a)).1,I (d2 (P2 a)).2.1,I (d4 (P2 a)).1,I (d4 (P2 a)).2.1,I (d6 (P2 a)).1,I (d6 (P2 a)).2.1,I (d8 (P2 a)).1,I (d8 (P2 a)).2.1,I (df (P2 a)).1,I (df (P2 a)).2.1,I (dg (P2 a)).1,I (dg (P2 a)).2.1,I (dh (P2 a)).1,I (dh (P2 a)).2.1,AV.slice Xb 3 (di a).1,I (di a).2.1,I (d2 (di a)).1,I (d2 (di a)).2.1,I (d4 (di a)).1,I (d4 (di a)).2.1,I (d6 (di a)).1,B (d6 (di a)).2.1,AV.slice Xb 3 (d8 (di a)).1,AV.slice Xb 11 Q,AV.slice Xb 1 (df (di a)).1,AV.slice Xb 2 (df (di a)).2.1,I (dg (di a)).1,I (dg (di a)).2.1,AV.slice Xb 1 (dh (di a)).1,AV.slice Xb 1 (dh (di a)).2.1,AV.slice Xb 15 (dj a).1,AV.slice Xb 28 (dj a).2.1,AV.slice Xb 4 (d2 (dj a)).1,AV.slice Xb 2 (d2 (dj a)).2.1,AV.slice Xb 13 (d4 (dj a)).1,AV.slice Xb 3 (d4 (dj a)).2.1,I (d6 (dj a)).1,I (d6 (dj a)).2.1,AV.slice Xb 1 (d8 (dj a)).1,AV.slice Xb 1 (d8 (dj a)).2.1,AV.slice Xb 15 (df (dj a)).1,AV.slice Xb 28 (df (dj a)).2.1,AV.slice Xb 4 (dg (dj a)).1,AV.slice Xb 2 (dg (dj a)).2.1,AV.slice Xb 13 (dh (dj a)).1,AV.slice Xb 3 (dh (dj a)).2.1,B (dk a).1,I (dk a).2.1,AV.slice Xb 1 (d2 (dk a)).1,AV.slice Xb 1 (d2 (dk a)).2.1,AV.slice Xb 15 (d4 (dk a)).1,AV.slice Xb 28 (d4 (dk a)).2.1,AV.slice Xb 4 (d6 (dk a)).1,AV.slice Xb 2 (d6 (dk a)).2.1,AV.slice Xb 13 (d8 (dk a)).1,AV.slice Xb 3 (d8 (dk a)).2.1]]),(df (dk a)).1,(df (dk a)).2.1,(dg (dk a)).1,(dg (dk a)).2.1,(dh (dk a)).1,(dh (dk a)).2.1,(dl a).1,(dl a).2.1,(d2 (dl a)).1,(d2 (dl a)).2.1,(d4 (dl a)).1,(d4 (dl a)).2.1,(d6 (dl a)).1,(d6 (dl a)).2.1,(d8 (dl a)).1,(d8 (dl a)).2.1,(df (dl a)).1,(df (dl a)).2.1,(dg (dl a)).1,(dg (dl a)).2.1,(dh (dl a)).1,(dh (dl a)).2.1,(P2 (dl a)).1,(P2 (dl a)).2.1,(d2 (P2 (dl a))).1,(d2 (P2 (dl a))).2.1,(d4 (P2 (dl a))).1,(d4 (P2 (dl a))).2.1,(d6 (P2 (dl a))).1,(d6 (P2 (dl a))).2.1,(d8 (P2 (dl a))).1,(d8 (P2 (dl a))).2.1,(df (P2 (dl a))).1,(df (P2 (dl a))).2.1,(dg (P2 (dl a))).1,(dg (P2 (dl a))).2.1,(dh (P2 (dl a))).1,(dh (P2 (dl a))).2)):=by kernel_rfl
noncomputable def ZuO:Fn:=⟨39,[6],[(7,[(0,.box hs5),(7,.c (.own Xb 50)),(23,.c (.slice 13)),(24,.c (.int .i64)),(25,.c (.int .i64))])],[0],0,[],[],Tryz.f129,[.box hs5,.c (.slice 13),.c (.int .i64)],[.c (.own Xb 76)],[(169,Zs3.S),(48,F48.S),(58,F58.S)]⟩
def ZxU:ZuO.S.Ok Tryz.prog 129:=ZuO.ok Tryz.func129 ⟨Zws,⟨Zwh,⟨Zu6,trivial⟩⟩⟩
noncomputable def Zmc (a c d:Int) (e:Bool) (f h:LL) (j k m n o p q r s t u v w x y z A C D E:Int) (G:LL) (H J K L M N:Int) (O:Bool) (P:Int) (Q R T U:LL) (V:Int):Option (Qt14):=ZuO.S.g [.i a,.i c,.i d,.b e,.l f,.l h,.i j,.i k,.i m,.i n,.i o,.i p,.i q,.i r,.i s,.i t,.i u,.i v,.i w,.i x,.i y,.i z,.i A,.i C,.i D,.i E,.l G,.i H,.i J,.i K,.i L,.i M,.i N,.b O,.i P,.l Q,.l R,.l T,.l U,.i V]
noncomputable def ZcU (k:Nat) (a c d:Int) (e:Bool) (f g:LL) (h j m n o p q r s t u v w x y z A C D E:Int) (G:LL) (H J K L M N:Int) (O:Bool) (P:Int) (Q R T U V:LL) (W X:Int):Option (Qt14):=ZuO.lp [0,2,1,0] 0 r0 k [.i a,.i c,.i d,.b e,.l f,.l g,.i h,.i j,.i m,.i n,.i o,.i p,.i q,.i r,.i s,.i t,.i u,.i v,.i w,.i x,.i y,.i z,.i A,.i C,.i D,.i E,.l G,.i H,.i J,.i K,.i L,.i M,.i N,.b O,.i P,.l Q,.l R,.l T,.l U,.l V,.i W,.i X]
def ZlL (k:Nat) (e f g:Int) (h:Bool) (i j:LL) (l m n o p q r s t u v w x y z A C D E G:Int) (H:LL) (J K L M N O:Int) (P:Bool) (Q:Int) (R T U c V:LL) (W d:Int):ZcU (k+1) e f g h i j l m n o p q r s t u v w x y z A C D E G H J K L M N O P Q R T U c V W d =
 (if P0 .lss d W then
 Zn V d hs21 fun (a:Qt30)=>
 (g58 a.2.2.1 a.2.2.2.1 (d4 a).1 (d4 a).2.1 (d6 a).1 (d6 a).2.1 (d8 a).1 (d8 a).2.1 (df a).1 (df a).2.1 (dg a)).bind fun b=>
 Zl (ZB c (E0++[[I b.1,I b.2.1,I b.2.2.1,AV.slice Xb 3 b.2.2.2.1,I (d4 b).1,I (d4 b).2.1,I (d6 b).1,I (d6 b).2.1,I (d8 b).1,I (d8 b).2.1,B b.2.2.2.2.2.2.2.2.2.2]]) 104)<|
 ZcU k e f g h i j l m n o p q r s t u v w x y z A C D E G H J K L M N O P Q R T U (c++(E0++[[I b.1,I b.2.1,I b.2.2.1,AV.slice Xb 3 b.2.2.2.1,I (d4 b).1,I (d4 b).2.1,I (d6 b).1,I (d6 b).2.1,I (d8 b).1,I (d8 b).2.1,B b.2.2.2.2.2.2.2.2.2.2]])) V W (P1 .add .i64 d 1)
 else
 (g48 e f g h i j l m n o p q r s t u v w x y z A C D E G H J K L M N O P Q R T U 0 Xb c).bind fun a=>
 Xa (a.1,a.2.1,a.2.2.1,a.2.2.2.1,(d4 a).1,(d4 a).2.1,(d6 a).1,(d6 a).2.1,(d8 a).1,(d8 a).2.1,(df a).1,(df a).2.1,(dg a).1,(dg a).2.1,(dh a).1,(dh a).2.1,(P2 a).1,(P2 a).2.1,(d2 (P2 a)).1,(d2 (P2 a)).2.1,(d4 (P2 a)).1,(d4 (P2 a)).2.1,(d6 (P2 a)).1,(d6 (P2 a)).2.1,(d8 (P2 a)).1,(d8 (P2 a)).2.1,(df (P2 a)).1,(df (P2 a)).2.1,(dg (P2 a)).1,(dg (P2 a)).2.1,(dh (P2 a)).1,(dh (P2 a)).2.1,(di a).1,(di a).2.1,(d2 (di a)).1,(d2 (di a)).2.1,(d4 (di a)).1,(d4 (di a)).2.1,(d6 (di a)))):=by kernel_rfl
def Znb (e f g:Int) (h:Bool) (i j:LL) (k l m n o p q r s t u v w x y z A C D E:Int) (G:LL) (H J K L M N:Int) (O:Bool) (P:Int) (Q R T c:LL) (d:Int):Zmc e f g h i j k l m n o p q r s t u v w x y z A C D E G H J K L M N O P Q R T c d =
 (if P0 .eql d 0 then
 (ZpL e f g h i j k l m n o p q r s t u v w x y z A C D E G H J K L M N O P Q R T c).bind fun a=>
 if (!a.1) then
 if P0 .neq 3 0 then
 (g48 a.2.1 a.2.2.1 a.2.2.2.1 (d4 a).1 (d4 a).2.1 (d6 a).1 (d6 a).2.1 (d8 a).1 (d8 a).2.1 (df a).1 (df a).2.1 (dg a).1 (dg a).2.1 (dh a).1 (dh a).2.1 (P2 a).1 (P2 a).2.1 (d2 (P2 a)).1 (d2 (P2 a)).2.1 (d4 (P2 a)).1 (d4 (P2 a)).2.1 (d6 (P2 a)).1 (d6 (P2 a)).2.1 (d8 (P2 a)).1 (d8 (P2 a)).2.1 (df (P2 a)).1 (df (P2 a)).2.1 (dg (P2 a)).1 (dg (P2 a)).2.1 (dh (P2 a)).1 (dh (P2 a)).2.1 (di a).1 (di a).2.1 (d2 (di a)).1 (d2 (di a)).2.1 (d4 (di a)).1 (d4 (di a)).2.1 (d6 (di a)) 3 Xb E0).bind fun b=>
 Xa (b.1,b.2.1,b.2.2.1,b.2.2.2.1,(d4 b).1,(d4 b).2.1,(d6 b).1,(d6 b).2.1,(d8 b).1,(d8 b).2.1,(df b).1,(df b).2.1,(dg b).1,(dg b).2.1,(dh b).1,(dh b).2.1,(P2 b).1,(P2 b).2.1,(d2 (P2 b)).1,(d2 (P2 b)).2.1,(d4 (P2 b)).1,(d4 (P2 b)).2.1,(d6 (P2 b)).1,(d6 (P2 b)).2.1,(d8 (P2 b)).1,(d8 (P2 b)).2.1,(df (P2 b)).1,(df (P2 b)).2.1,(dg (P2 b)).1,(dg (P2 b)).2.1,(dh (P2 b)).1,(dh (P2 b)).2.1,(di b).1,(di b).2.1,(d2 (di b)).1,(d2 (di b)).2.1,(d4 (di b)).1,(d4 (di b)).2.1,(d6 (di b)))
 else
 ZcU ZG a.2.1 a.2.2.1 a.2.2.2.1 (d4 a).1 (d4 a).2.1 (d6 a).1 (d6 a).2.1 (d8 a).1 (d8 a).2.1 (df a).1 (df a).2.1 (dg a).1 (dg a).2.1 (dh a).1 (dh a).2.1 (P2 a).1 (P2 a).2.1 (d2 (P2 a)).1 (d2 (P2 a)).2.1 (d4 (P2 a)).1 (d4 (P2 a)).2.1 (d6 (P2 a)).1 (d6 (P2 a)).2.1 (d8 (P2 a)).1 (d8 (P2 a)).2.1 (df (P2 a)).1 (df (P2 a)).2.1 (dg (P2 a)).1 (dg (P2 a)).2.1 (dh (P2 a)).1 (dh (P2 a)).2.1 (di a).1 (di a).2.1 (d2 (di a)).1 (d2 (di a)).2.1 (d4 (di a)).1 (d4 (di a)).2.1 (d6 (di a)) E0 c (Xg c:Int) 0
 else
 if P0 .neq d 0 then
 (g48 a.2.1 a.2.2.1 a.2.2.2.1 (d4 a).1 (d4 a).2.1 (d6 a).1 (d6 a).2.1 (d8 a).1 (d8 a).2.1 (df a).1 (df a).2.1 (dg a).1 (dg a).2.1 (dh a).1 (dh a).2.1 (P2 a).1 (P2 a).2.1 (d2 (P2 a)).1 (d2 (P2 a)).2.1 (d4 (P2 a)).1 (d4 (P2 a)).2.1 (d6 (P2 a)).1 (d6 (P2 a)).2.1 (d8 (P2 a)).1 (d8 (P2 a)).2.1 (df (P2 a)).1 (df (P2 a)).2.1 (dg (P2 a)).1 (dg (P2 a)).2.1 (dh (P2 a)).1 (dh (P2 a)).2.1 (di a).1 (di a).2.1 (d2 (di a)).1 (d2 (di a)).2.1 (d4 (di a)).1 (d4 (di a)).2.1 (d6 (di a)) d Xb E0).bind fun b=>
 Xa (b.1,b.2.1,b.2.2.1,b.2.2.2.1,(d4 b).1,(d4 b).2.1,(d6 b).1,(d6 b).2.1,(d8 b).1,(d8 b).2.1,(df b).1,(df b).2.1,(dg b).1,(dg b).2.1,(dh b).1,(dh b).2.1,(P2 b).1,(P2 b).2.1,(d2 (P2 b)).1,(d2 (P2 b)).2.1,(d4 (P2 b)).1,(d4 (P2 b)).2.1,(d6 (P2 b)).1,(d6 (P2 b)).2.1,(d8 (P2 b)).1,(d8 (P2 b)).2.1,(df (P2 b)).1,(df (P2 b)).2.1,(dg (P2 b)).1,(dg (P2 b)).2.1,(dh (P2 b)).1,(dh (P2 b)).2.1,(di b).1,(di b).2.1,(d2 (di b)).1,(d2 (di b)).2.1,(d4 (di b)).1,(d4 (di b)).2.1,(d6 (di b)))
 else
 ZcU ZG a.2.1 a.2.2.1 a.2.2.2.1 (d4 a).1 (d4 a).2.1 (d6 a).1 (d6 a).2.1 (d8 a).1 (d8 a).2.1 (df a).1 (df a).2.1 (dg a).1 (dg a).2.1 (dh a).1 (dh a).2.1 (P2 a).1 (P2 a).2.1 (d2 (P2 a)).1 (d2 (P2 a)).2.1 (d4 (P2 a)).1 (d4 (P2 a)).2.1 (d6 (P2 a)).1 (d6 (P2 a)).2.1 (d8 (P2 a)).1 (d8 (P2 a)).2.1 (df (P2 a)).1 (df (P2 a)).2.1 (dg (P2 a)).1 (dg (P2 a)).2.1 (dh (P2 a)).1 (dh (P2 a)).2.1 (di a).1 (di a).2.1 (d2 (di a)).1 (d2 (di a)).2.1 (d4 (di a)).1 (d4 (di a)).2.1 (d6 (di a)) E0 c (Xg c:Int) 0
 else
 if P0 .neq d 0 then
 (g48 e f g h i j k l m n o p q r s t u v w x y z A C D E G H J K L M N O P Q R T d Xb E0).bind fun a=>
 Xa (a.1,a.2.1,a.2.2.1,a.2.2.2.1,(d4 a).1,(d4 a).2.1,(d6 a).1,(d6 a).2.1,(d8 a).1,(d8 a).2.1,(df a).1,(df a).2.1,(dg a).1,(dg a).2.1,(dh a).1,(dh a).2.1,(P2 a).1,(P2 a).2.1,(d2 (P2 a)).1,(d2 (P2 a)).2.1,(d4 (P2 a)).1,(d4 (P2 a)).2.1,(d6 (P2 a)).1,(d6 (P2 a)).2.1,(d8 (P2 a)).1,(d8 (P2 a)).2.1,(df (P2 a)).1,(df (P2 a)).2.1,(dg (P2 a)).1,(dg (P2 a)).2.1,(dh (P2 a)).1,(dh (P2 a)).2.1,(di a).1,(di a).2.1,(d2 (di a)).1,(d2 (di a)).2.1,(d4 (di a)).1,(d4 (di a)).2.1,(d6 (di a)))
 else
 ZcU ZG e f g h i j k l m n o p q r s t u v w x y z A C D E G H J K L M N O P Q R T E0 c (Xg c:Int) 0):=by kernel_rfl
noncomputable def ZwK:Fn:=⟨79,[2,3],[],[0],0,[],[],Tryz.f130,[.box hs5],[.c (.own Xb 52),.c (.int .i64)],[(165,Zp7.S),(170,Zvl.S),(171,ZmO.S)]⟩
def ZyW:ZwK.S.Ok Tryz.prog 130:=ZwK.ok Tryz.func130 ⟨ZnJ,⟨ZtJ,⟨Zu2,trivial⟩⟩⟩
noncomputable def ZvM (a c d:Int) (e:Bool) (f h:LL) (j k m n o p q r s t u v w x y z A C D E:Int) (G:LL) (H J K L M N:Int) (O:Bool) (P:Int) (Q R T:LL):Option (Qt11):=ZwK.S.g [.i a,.i c,.i d,.b e,.l f,.l h,.i j,.i k,.i m,.i n,.i o,.i p,.i q,.i r,.i s,.i t,.i u,.i v,.i w,.i x,.i y,.i z,.i A,.i C,.i D,.i E,.l G,.i H,.i J,.i K,.i L,.i M,.i N,.b O,.i P,.l Q,.l R,.l T]
def ZqX (k f g:Int) (d:Bool) (h l:LL) (e i j m n c o p q a r b s t u v w x y z:Int) (A:LL) (C D E G H J:Int) (K:Bool) (L:Int) (M N O:LL):ZvM k f g d h l e i j m n c o p q a r b s t u v w x y z A C D E G H J K L M N O =
 (if P0 .lss c 0 then
 Xa (E0,1,k,f,g,d,h,l,e,i,j,m,n,c,o,p,q,a,r,b,s,t,u,v,w,x,y,z,A,C,D,E,G,H,J,K,L,M,N,O)
 else
 if P0 .geq c 64 then
 Xa (E0,1,k,f,g,d,h,l,e,i,j,m,n,c,o,p,q,a,r,b,s,t,u,v,w,x,y,z,A,C,D,E,G,H,J,K,L,M,N,O)
 else
 (Zon b a).bind fun P=>
 if (!P) then
 Xa (E0,6,k,f,g,d,h,l,e,i,j,m,n,c,o,p,q,a,r,b,s,t,u,v,w,x,y,z,A,C,D,E,G,H,J,K,L,M,N,O)
 else
 (Zw4 f g b a).bind fun Q=>
 if (!Q) then
 Xa (E0,11,k,f,g,d,h,l,e,i,j,m,n,c,o,p,q,a,r,b,s,t,u,v,w,x,y,z,A,C,D,E,G,H,J,K,L,M,N,O)
 else
 (Zu0 h 0 0 0 (E0++[[I 1,I b,I a,I 7,I 0,I 0,B d]])).bind fun R=>
 if R then
 Xa (E0,7,k,f,g,d,h,l,e,i,j,m,n,c,o,p,q,a,r,b,s,t,u,v,w,x,y,z,A,C,D,E,G,H,J,K,L,M,N,O)
 else
 Xa ((E0++[[I e,I c,I e,I i,I j,AV.slice Xb 3 E0,I 1,I b,I a,I 7,I 0,I 0,B d]]),0,k,f,g,d,h,l,e,i,j,m,n,c,o,p,q,a,r,b,s,t,u,v,w,x,y,z,A,C,D,E,G,H,J,K,L,M,N,O)):=by kernel_rfl
noncomputable def ZsX:Fn:=⟨61,[2,3],[],[0],0,[],[],Tryz.f134,[.box hs5],[.agg hs24,.c (.bool)],[(55,F55.S)]⟩
def ZrO:ZsX.S.Ok Tryz.prog 134:=ZsX.ok Tryz.func134 ⟨ZwO,trivial⟩
noncomputable def Zs6 (a c d:Int) (e:Bool) (f h:LL) (j k m n o p q r s t u v w x y z A C D E:Int) (G:LL) (H J K L M N:Int) (O:Bool) (P:Int) (Q R T:LL):Option (Qt10):=ZsX.S.g [.i a,.i c,.i d,.b e,.l f,.l h,.i j,.i k,.i m,.i n,.i o,.i p,.i q,.i r,.i s,.i t,.i u,.i v,.i w,.i x,.i y,.i z,.i A,.i C,.i D,.i E,.l G,.i H,.i J,.i K,.i L,.i M,.i N,.b O,.i P,.l Q,.l R,.l T]
def ZsU (h i j:Int) (k:Bool) (b l:LL) (c m n o d p q r s t u v w x y z A e f g:Int) (C:LL) (D E G H J K:Int) (L:Bool) (M:Int) (N O P:LL):Zs6 h i j k b l c m n o d p q r s t u v w x y z A e f g C D E G H J K L M N O P =
 ((g55 b e f g).bind fun Q=>
 if (!Q.2) then
 Xa (0,0,0,E0,0,0,0,0,0,0,Xb,Xb,h,i,j,k,b,l,c,m,n,o,d,p,q,r,s,t,u,v,w,x,y,z,A,e,f,g,C,D,E,G,H,J,K,L,M,N,O,P)
 else
 Zn b Q.1 hs21 fun (R:Qt30)=>
 if P0 .neq R.1 c then
 Xa (0,0,0,E0,0,0,0,0,0,0,Xb,Xb,h,i,j,k,b,l,c,m,n,o,d,p,q,r,s,t,u,v,w,x,y,z,A,e,f,g,C,D,E,G,H,J,K,L,M,N,O,P)
 else
 Zn b Q.1 hs21 fun (T:Qt30)=>
 if P0 .neq T.2.1 d then
 Xa (0,0,0,E0,0,0,0,0,0,0,Xb,Xb,h,i,j,k,b,l,c,m,n,o,d,p,q,r,s,t,u,v,w,x,y,z,A,e,f,g,C,D,E,G,H,J,K,L,M,N,O,P)
 else
 Zn b Q.1 hs21 fun (a:Qt30)=>
 Xa (a.2.2.1,a.2.2.2.1,(d4 a).1,(d4 a).2.1,(d6 a).1,(d6 a).2.1,(d8 a).1,(d8 a).2.1,(df a).1,(df a).2.1,(dg a),true,h,i,j,k,b,l,c,m,n,o,d,p,q,r,s,t,u,v,w,x,y,z,A,e,f,g,C,D,E,G,H,J,K,L,M,N,O,P)):=by kernel_rfl
noncomputable def Zuz:Fn:=⟨118,[14,15],[(20,[(1,.c (.int .i64)),(2,.c (.int .i64)),(3,.c (.int .i64)),(4,.c (.int .i64)),(5,.c (.int .i64)),(7,.box hs31),(16,.c (.int .i64)),(17,.c (.own Xb 48)),(92,.c (.int .i64)),(93,.c (.int .i64))])],[],0,[],[],Tryz.f172,[.agg hs31,.c (.int .i64),.c (.int .i64),.c (.int .i64),.c (.int .i64),.c (.int .i64),.c (.int .i64)],[.c (.own Xb 48),.c (.int .i64)],[(127,Zs9.S),(164,Zvc.S),(167,Ztu.S)]⟩
def Zy8:Zuz.S.Ok Tryz.prog 172:=Zuz.ok Tryz.func172 ⟨Zr8,⟨Zwr,⟨ZvH,trivial⟩⟩⟩
noncomputable def ZwY (a c d e f h:Int) (j:Bool) (k l m n o p:Int):Option (LL×Int):=Zuz.S.g [.i a,.i c,.i d,.i e,.i f,.i h,.b j,.i k,.i l,.i m,.i n,.i o,.i p]
noncomputable def Jy (k:Nat) (a c d e f g h j m n o:Int) (p:Bool) (q:Int) (r:LL) (s t:Int):Option (LL×Int):=Zuz.lp [0,1,1,1,0,1,0,0,1,1,1,1,0,0,1,2,1,0,1,0,1,0,0] 0 r0 k [.i a,.i c,.i d,.i e,.i f,.i g,.i h,.i j,.i m,.i n,.i o,.b p,.i q,.l r,.i s,.i t]
def ZfK (k:Nat) (b c d e f n g o h p q:Int) (i:Bool) (j:Int) (l:LL) (m a:Int):Jy (k+1) b c d e f n g o h p q i j l m a =
 (if P0 .lss a m then
 Zl (ZB l (E0++[[I b,I (P1 .add .i64 (P1 .add .i64 g f) (P1 .mul .i64 a j)),I c,I h,I e,I d,B i]]) 56)<|
 Jy k b c d e f n g o h p q i j (l++(E0++[[I b,I (P1 .add .i64 (P1 .add .i64 g f) (P1 .mul .i64 a j)),I c,I h,I e,I d,B i]])) m (P1 .add .i64 a 1)
 else
 Xa (l,0)):=by kernel_rfl
def Zrb (g i c h j k:Int) (f:Bool) (b a l m d e:Int):ZwY g i c h j k f b a l m d e =
 ((ZuT g i c h j k f).bind fun n=>
 if (!n) then
 Xa (E0,5)
 else
 if P0 .neq g 1 then
 Xa (E0,5)
 else
 if P0 .eql (P1 .and .i64 h 2) 0 then
 Xa (E0,8)
 else
 (ZwL b a).bind fun o=>
 if (!o) then
 Xa (E0,1)
 else
 if P0 .eql b 3 then
 (Zxw m l).bind fun p=>
 if (!p) then
 Xa (E0,1)
 else
 if P0 .lss e 1 then
 Xa (E0,1)
 else
 if P0 .gtr e 8 then
 Xa (E0,1)
 else
 if P0 .lss d 0 then
 Xa (E0,1)
 else
 if f then
 if P0 .neq b 1 then
 if P0 .neq b 2 then
 Xa (E0,5)
 else
 Zl ((0:Int)≤a)<|
 Zl (((P1 .shl .i64 1 a):Int)≠0)<|
 if (P0 .neq (P1 .rem .i64 d (P1 .shl .i64 1 a)) 0) then
 Xa (E0,6)
 else
 Zl ((0:Int)≤c)<|
 if (P0 .gtr d (P1 .sub .i64 (P1 .shl .i64 1 c) (P1 .mul .i64 e (P1 .shl .i64 1 a)))) then
 Xa (E0,6)
 else
 if P0 .eql b 1 then
 if P0 .geq a c then
 Xa (E0,6)
 else
 if P0 .neq b 3 then
 Jy ZG b a 0 0 d g i c h j k f (P1 .shl .i64 1 a) E0 e 0
 else
 Jy ZG b a l m d g i c h j k f (P1 .shl .i64 1 a) E0 e 0
 else
 if P0 .neq b 3 then
 Jy ZG b a 0 0 d g i c h j k f (P1 .shl .i64 1 a) E0 e 0
 else
 Jy ZG b a l m d g i c h j k f (P1 .shl .i64 1 a) E0 e 0
 else
 Zl ((0:Int)≤a)<|
 Zl (((P1 .shl .i64 1 a):Int)≠0)<|
 if (P0 .neq (P1 .rem .i64 d (P1 .shl .i64 1 a)) 0) then
 Xa (E0,6)
 else
 Zl ((0:Int)≤c)<|
 if (P0 .gtr d (P1 .sub .i64 (P1 .shl .i64 1 c) (P1 .mul .i64 e (P1 .shl .i64 1 a)))) then
 Xa (E0,6)
 else
 if P0 .eql b 1 then
 if P0 .geq a c then
 Xa (E0,6)
 else
 if P0 .neq b 3 then
 Jy ZG b a 0 0 d g i c h j k f (P1 .shl .i64 1 a) E0 e 0
 else
 Jy ZG b a l m d g i c h j k f (P1 .shl .i64 1 a) E0 e 0
 else
 if P0 .neq b 3 then
 Jy ZG b a 0 0 d g i c h j k f (P1 .shl .i64 1 a) E0 e 0
 else
 Jy ZG b a l m d g i c h j k f (P1 .shl .i64 1 a) E0 e 0
 else
 Zl ((0:Int)≤a)<|
 Zl (((P1 .shl .i64 1 a):Int)≠0)<|
 if (P0 .neq (P1 .rem .i64 d (P1 .shl .i64 1 a)) 0) then
 Xa (E0,6)
 else
 Zl ((0:Int)≤c)<|
 if (P0 .gtr d (P1 .sub .i64 (P1 .shl .i64 1 c) (P1 .mul .i64 e (P1 .shl .i64 1 a)))) then
 Xa (E0,6)
 else
 if P0 .eql b 1 then
 if P0 .geq a c then
 Xa (E0,6)
 else
 if P0 .neq b 3 then
 Jy ZG b a 0 0 d g i c h j k f (P1 .shl .i64 1 a) E0 e 0
 else
 Jy ZG b a l m d g i c h j k f (P1 .shl .i64 1 a) E0 e 0
 else
 if P0 .neq b 3 then
 Jy ZG b a 0 0 d g i c h j k f (P1 .shl .i64 1 a) E0 e 0
 else
 Jy ZG b a l m d g i c h j k f (P1 .shl .i64 1 a) E0 e 0
 else
 if P0 .lss e 1 then
 Xa (E0,1)
 else
 if P0 .gtr e 8 then
 Xa (E0,1)
 else
 if P0 .lss d 0 then
 Xa (E0,1)
 else
 if f then
 if P0 .neq b 1 then
 if P0 .neq b 2 then
 Xa (E0,5)
 else
 Zl ((0:Int)≤a)<|
 Zl (((P1 .shl .i64 1 a):Int)≠0)<|
 if (P0 .neq (P1 .rem .i64 d (P1 .shl .i64 1 a)) 0) then
 Xa (E0,6)
 else
 Zl ((0:Int)≤c)<|
 if (P0 .gtr d (P1 .sub .i64 (P1 .shl .i64 1 c) (P1 .mul .i64 e (P1 .shl .i64 1 a)))) then
 Xa (E0,6)
 else
 if P0 .eql b 1 then
 if P0 .geq a c then
 Xa (E0,6)
 else
 if P0 .neq b 3 then
 Jy ZG b a 0 0 d g i c h j k f (P1 .shl .i64 1 a) E0 e 0
 else
 Jy ZG b a l m d g i c h j k f (P1 .shl .i64 1 a) E0 e 0
 else
 if P0 .neq b 3 then
 Jy ZG b a 0 0 d g i c h j k f (P1 .shl .i64 1 a) E0 e 0
 else
 Jy ZG b a l m d g i c h j k f (P1 .shl .i64 1 a) E0 e 0
 else
 Zl ((0:Int)≤a)<|
 Zl (((P1 .shl .i64 1 a):Int)≠0)<|
 if (P0 .neq (P1 .rem .i64 d (P1 .shl .i64 1 a)) 0) then
 Xa (E0,6)
 else
 Zl ((0:Int)≤c)<|
 if (P0 .gtr d (P1 .sub .i64 (P1 .shl .i64 1 c) (P1 .mul .i64 e (P1 .shl .i64 1 a)))) then
 Xa (E0,6)
 else
 if P0 .eql b 1 then
 if P0 .geq a c then
 Xa (E0,6)
 else
 if P0 .neq b 3 then
 Jy ZG b a 0 0 d g i c h j k f (P1 .shl .i64 1 a) E0 e 0
 else
 Jy ZG b a l m d g i c h j k f (P1 .shl .i64 1 a) E0 e 0
 else
 if P0 .neq b 3 then
 Jy ZG b a 0 0 d g i c h j k f (P1 .shl .i64 1 a) E0 e 0
 else
 Jy ZG b a l m d g i c h j k f (P1 .shl .i64 1 a) E0 e 0
 else
 Zl ((0:Int)≤a)<|
 Zl (((P1 .shl .i64 1 a):Int)≠0)<|
 if (P0 .neq (P1 .rem .i64 d (P1 .shl .i64 1 a)) 0) then
 Xa (E0,6)
 else
 Zl ((0:Int)≤c)<|
 if (P0 .gtr d (P1 .sub .i64 (P1 .shl .i64 1 c) (P1 .mul .i64 e (P1 .shl .i64 1 a)))) then
 Xa (E0,6)
 else
 if P0 .eql b 1 then
 if P0 .geq a c then
 Xa (E0,6)
 else
 if P0 .neq b 3 then
 Jy ZG b a 0 0 d g i c h j k f (P1 .shl .i64 1 a) E0 e 0
 else
 Jy ZG b a l m d g i c h j k f (P1 .shl .i64 1 a) E0 e 0
 else
 if P0 .neq b 3 then
 Jy ZG b a 0 0 d g i c h j k f (P1 .shl .i64 1 a) E0 e 0
 else
 Jy ZG b a l m d g i c h j k f (P1 .shl .i64 1 a) E0 e 0):=by kernel_rfl
noncomputable def Zs7:Fn:=⟨9,[4],[],[],0,[],[],Tryz.f176,[.agg hs24,.agg [.int .i64,.int .i64,.int .i64]],[.c (.bool)],[(128,Zt4.S)]⟩
def ZqR:Zs7.S.Ok Tryz.prog 176:=Zs7.ok Tryz.func176 ⟨ZvP,trivial⟩
noncomputable def Zti (a c d:Int) (e:LL) (f h j k m n:Int) (o:Bool) (p q r:Int):Option (Bool):=Zs7.S.g [.i a,.i c,.i d,.l e,.i f,.i h,.i j,.i k,.i m,.i n,.b o,.i p,.i q,.i r]
def Zng (e f g:Int) (a:LL) (h i j k l m:Int) (n:Bool) (b c d:Int):Zti e f g a h i j k l m n b c d =
 ((Zxa a b c d).bind fun o=>
 Xa (o)):=by kernel_rfl
noncomputable def Zwj:Fn:=⟨48,[6,7],[],[],0,[],[],Tryz.f173,[.agg hs24,.agg [.int .i64,.int .i64,.int .i64],.agg hs31],[.agg hs24,.c (.int .i64)],[(83,F83.S),(125,Zp3.S),(127,Zs9.S),(176,Zs7.S),(101,Zuy.S)]⟩
def ZvF:Zwj.S.Ok Tryz.prog 173:=Zwj.ok Tryz.func173 ⟨Zwv,⟨Znk,⟨Zr8,⟨ZqR,⟨Zuk,trivial⟩⟩⟩⟩⟩
noncomputable def ZuN (a c d:Int) (e:LL) (f h j k m n:Int) (o:Bool) (p q r s t u v w x:Int) (y:Bool):Option (Qt32):=Zwj.S.g [.i a,.i c,.i d,.l e,.i f,.i h,.i j,.i k,.i m,.i n,.b o,.i p,.i q,.i r,.i s,.i t,.i u,.i v,.i w,.i x,.b y]
def ZqG (a b c:Int) (d:LL) (h i j k l m:Int) (n:Bool) (e f g o p q r s t:Int) (u:Bool):ZuN a b c d h i j k l m n e f g o p q r s t u =
 ((g83 a b c d h i j k l m n).bind fun w=>
 if (!w) then
 Xa (0,0,0,E0,0,0,0,0,0,0,Xb,1)
 else
 (Ztc e f g).bind fun x=>
 if (!x) then
 Xa (0,0,0,E0,0,0,0,0,0,0,Xb,1)
 else
 (ZuT o p q r s t u).bind fun y=>
 if (!y) then
 Xa (0,0,0,E0,0,0,0,0,0,0,Xb,1)
 else
 if ((P0 .eql e a)&&((P0 .eql f b)&&((P0 .eql g c)&&true))) then
 Xa (0,0,0,E0,0,0,0,0,0,0,Xb,1)
 else
 (Zti a b c d h i j k l m n e f g).bind fun z=>
 if z then
 Xa (0,0,0,E0,0,0,0,0,0,0,Xb,1)
 else
 if P0 .geq (Xg d:Int) 8 then
 Xa (0,0,0,E0,0,0,0,0,0,0,Xb,9)
 else
 (ZwW d).bind fun v=>
 Zl (ZB v (E0++[[I a,I b,I c]]) 24)<|
 Xa (e,f,g,(v++(E0++[[I a,I b,I c]])),o,p,q,r,s,t,u,0)):=by kernel_rfl
noncomputable def ZtP:Fn:=⟨119,[2,3],[(12,[(0,.box hs5),(4,.box hs9),(5,.box hs22),(6,.box hs24),(8,.c (.slice 7)),(10,.c (.own Xb 52)),(73,.c (.slice 7)),(74,.c (.int .i64)),(75,.c (.int .i64))])],[0],0,[],[],Tryz.f131,[.box hs5],[.c (.own Xb 52),.c (.int .i64)],[(134,ZsX.S),(172,Zuz.S),(173,Zwj.S),(171,ZmO.S)]⟩
def ZyD:ZtP.S.Ok Tryz.prog 131:=ZtP.ok Tryz.func131 ⟨ZrO,⟨Zy8,⟨ZvF,⟨Zu2,trivial⟩⟩⟩⟩
noncomputable def Zwe (a c d:Int) (e:Bool) (f h:LL) (j k m n o p q r s t u v w x y z A C D E:Int) (G:LL) (H J K L M N:Int) (O:Bool) (P:Int) (Q R T:LL):Option (Qt11):=ZtP.S.g [.i a,.i c,.i d,.b e,.l f,.l h,.i j,.i k,.i m,.i n,.i o,.i p,.i q,.i r,.i s,.i t,.i u,.i v,.i w,.i x,.i y,.i z,.i A,.i C,.i D,.i E,.l G,.i H,.i J,.i K,.i L,.i M,.i N,.b O,.i P,.l Q,.l R,.l T]
noncomputable def ZgW (k:Nat) (a c d:Int) (e:Bool) (f g:LL) (h j m n o p q r s t u v w x y z A C D E:Int) (G:LL) (H J K L M N:Int) (O:Bool) (P:Int) (Q R T:LL) (U V W X Y Z S ab ac ad ae af ag ah ai aj ak al am an:Int) (ao:LL) (ap aq ar au av aw:Int) (ax:Bool) (ay az a0 a1 a2 a3 a4 a5 a6 a7 a8 a9 ba bb bc:Int) (bd:LL) (be bf bg bh bi bj:Int) (bk:Bool) (bl bm bn:LL) (bo bp:Int):Option (Qt11):=ZtP.lp [1,1,1,1,0,1,0,1,0] 0 r0 k [.i a,.i c,.i d,.b e,.l f,.l g,.i h,.i j,.i m,.i n,.i o,.i p,.i q,.i r,.i s,.i t,.i u,.i v,.i w,.i x,.i y,.i z,.i A,.i C,.i D,.i E,.l G,.i H,.i J,.i K,.i L,.i M,.i N,.b O,.i P,.l Q,.l R,.l T,.i U,.i V,.i W,.i X,.i Y,.i Z,.i S,.i ab,.i ac,.i ad,.i ae,.i af,.i ag,.i ah,.i ai,.i aj,.i ak,.i al,.i am,.i an,.l ao,.i ap,.i aq,.i ar,.i au,.i av,.i aw,.b ax,.i ay,.i az,.i a0,.i a1,.i a2,.i a3,.i a4,.i a5,.i a6,.i a7,.i a8,.i a9,.i ba,.i bb,.i bc,.l bd,.i be,.i bf,.i bg,.i bh,.i bi,.i bj,.b bk,.l bl,.l bm,.l bn,.i bo,.i bp]
def ZmI (k:Nat) (e f g:Int) (h:Bool) (d i:LL) (j l m n o p q r s t u v w x y z A C D E:Int) (G:LL) (H J K L M N:Int) (O:Bool) (P:Int) (Q R T:LL) (U S am an ao ap aq ar au av aw ax ay az a0 a1 a2 a3 a4 a5:Int) (a6:LL) (a7 a8 a9 ba bb bc:Int) (bd:Bool) (be bf V bg bh bi bj bk bl bm bn bo W X Y:Int) (ab:LL) (ac ad ae af ag ah:Int) (ai:Bool) (aj Z ak:LL) (al c:Int):ZgW (k+1) e f g h d i j l m n o p q r s t u v w x y z A C D E G H J K L M N O P Q R T U S am an ao ap aq ar au av aw ax ay az a0 a1 a2 a3 a4 a5 a6 a7 a8 a9 ba bb bc bd be bf V bg bh bi bj bk bl bm bn bo W X Y ab ac ad ae af ag ah ai aj Z ak al c =
 (if P0 .lss c al then
 Zn ak c hs31 fun (b:Qt42)=>
 (ZuN W X Y ab ac ad ae af ag ah ai U S c b.1 b.2.1 b.2.2.1 b.2.2.2.1 (d4 b).1 (d4 b).2.1 b.2.2.2.2.2.2).bind fun a=>
 if P0 .neq a.2.2.2.2.2.2.2.2.2.2.2 0 then
 Xa (E0,a.2.2.2.2.2.2.2.2.2.2.2,e,f,g,h,d,i,j,l,m,n,o,p,q,r,s,t,u,v,w,x,y,z,A,C,D,E,G,H,J,K,L,M,N,O,P,Q,R,T)
 else
 Zl (ZB Z (E0++[[I U,I (P1 .add .i64 V c),I a.1,I a.2.1,I a.2.2.1,AV.slice Xb 3 a.2.2.2.1,I (d4 a).1,I (d4 a).2.1,I (d6 a).1,I (d6 a).2.1,I (d8 a).1,I (d8 a).2.1,B (df a).1]]) 120)<|
 ZgW k e f g h d i j l m n o p q r s t u v w x y z A C D E G H J K L M N O P Q R T U S am an ao ap aq ar au av aw ax ay az a0 a1 a2 a3 a4 a5 a6 a7 a8 a9 ba bb bc bd be bf V bg bh bi bj bk bl bm bn bo W X Y ab ac ad ae af ag ah ai aj (Z++(E0++[[I U,I (P1 .add .i64 V c),I a.1,I a.2.1,I a.2.2.1,AV.slice Xb 3 a.2.2.2.1,I (d4 a).1,I (d4 a).2.1,I (d6 a).1,I (d6 a).2.1,I (d8 a).1,I (d8 a).2.1,B (df a).1]])) ak al (P1 .add .i64 c 1)
 else
 (Zu0 d W X Y aj).bind fun b=>
 if b then
 Xa (E0,7,e,f,g,h,d,i,j,l,m,n,o,p,q,r,s,t,u,v,w,x,y,z,A,C,D,E,G,H,J,K,L,M,N,O,P,Q,R,T)
 else
 Xa (Z,0,e,f,g,h,d,i,j,l,m,n,o,p,q,r,s,t,u,v,w,x,y,z,A,C,D,E,G,H,J,K,L,M,N,O,P,Q,R,T)):=by kernel_rfl
def ZrQ (E G H:Int) (J:Bool) (K L:LL) (o p q h i c j k d e f g b l m r n s t u:Int) (v:LL) (w x y z A C:Int) (D:Bool) (M:Int) (N O P:LL):Zwe E G H J K L o p q h i c j k d e f g b l m r n s t u v w x y z A C D M N O P =
 (if P0 .lss b 1 then
 Xa (E0,1,E,G,H,J,K,L,o,p,q,h,i,c,j,k,d,e,f,g,b,l,m,r,n,s,t,u,v,w,x,y,z,A,C,D,M,N,O,P)
 else
 if P0 .gtr b 8 then
 Xa (E0,1,E,G,H,J,K,L,o,p,q,h,i,c,j,k,d,e,f,g,b,l,m,r,n,s,t,u,v,w,x,y,z,A,C,D,M,N,O,P)
 else
 if P0 .lss c 0 then
 Xa (E0,1,E,G,H,J,K,L,o,p,q,h,i,c,j,k,d,e,f,g,b,l,m,r,n,s,t,u,v,w,x,y,z,A,C,D,M,N,O,P)
 else
 if P0 .gtr c (P1 .sub .i64 64 b) then
 Xa (E0,1,E,G,H,J,K,L,o,p,q,h,i,c,j,k,d,e,f,g,b,l,m,r,n,s,t,u,v,w,x,y,z,A,C,D,M,N,O,P)
 else
 (Zs6 E G H J K L o p q h i c j k d e f g b l m r n s t u v w x y z A C D M N O P).bind fun a=>
 if (!(df a).2.1) then
 Xa (E0,2,(dg a).1,(dg a).2.1,(dh a).1,(dh a).2.1,(P2 a).1,(P2 a).2.1,(d2 (P2 a)).1,(d2 (P2 a)).2.1,(d4 (P2 a)).1,(d4 (P2 a)).2.1,(d6 (P2 a)).1,(d6 (P2 a)).2.1,(d8 (P2 a)).1,(d8 (P2 a)).2.1,(df (P2 a)).1,(df (P2 a)).2.1,(dg (P2 a)).1,(dg (P2 a)).2.1,(dh (P2 a)).1,(dh (P2 a)).2.1,(di a).1,(di a).2.1,(d2 (di a)).1,(d2 (di a)).2.1,(d4 (di a)).1,(d4 (di a)).2.1,(d6 (di a)).1,(d6 (di a)).2.1,(d8 (di a)).1,(d8 (di a)).2.1,(df (di a)).1,(df (di a)).2.1,(dg (di a)).1,(dg (di a)).2.1,(dh (di a)).1,(dh (di a)).2.1,(dj a).1,(dj a).2)
 else
 (ZwY (d4 a).1 (d4 a).2.1 (d6 a).1 (d6 a).2.1 (d8 a).1 (d8 a).2.1 (df a).1 d e f n g b).bind fun Q=>
 if P0 .neq Q.2 0 then
 Xa (E0,Q.2,(dg a).1,(dg a).2.1,(dh a).1,(dh a).2.1,(P2 a).1,(P2 a).2.1,(d2 (P2 a)).1,(d2 (P2 a)).2.1,(d4 (P2 a)).1,(d4 (P2 a)).2.1,(d6 (P2 a)).1,(d6 (P2 a)).2.1,(d8 (P2 a)).1,(d8 (P2 a)).2.1,(df (P2 a)).1,(df (P2 a)).2.1,(dg (P2 a)).1,(dg (P2 a)).2.1,(dh (P2 a)).1,(dh (P2 a)).2.1,(di a).1,(di a).2.1,(d2 (di a)).1,(d2 (di a)).2.1,(d4 (di a)).1,(d4 (di a)).2.1,(d6 (di a)).1,(d6 (di a)).2.1,(d8 (di a)).1,(d8 (di a)).2.1,(df (di a)).1,(df (di a)).2.1,(dg (di a)).1,(dg (di a)).2.1,(dh (di a)).1,(dh (di a)).2.1,(dj a).1,(dj a).2)
 else
 ZgW ZG (dg a).1 (dg a).2.1 (dh a).1 (dh a).2.1 (P2 a).1 (P2 a).2.1 (d2 (P2 a)).1 (d2 (P2 a)).2.1 (d4 (P2 a)).1 (d4 (P2 a)).2.1 (d6 (P2 a)).1 (d6 (P2 a)).2.1 (d8 (P2 a)).1 (d8 (P2 a)).2.1 (df (P2 a)).1 (df (P2 a)).2.1 (dg (P2 a)).1 (dg (P2 a)).2.1 (dh (P2 a)).1 (dh (P2 a)).2.1 (di a).1 (di a).2.1 (d2 (di a)).1 (d2 (di a)).2.1 (d4 (di a)).1 (d4 (di a)).2.1 (d6 (di a)).1 (d6 (di a)).2.1 (d8 (di a)).1 (d8 (di a)).2.1 (df (di a)).1 (df (di a)).2.1 (dg (di a)).1 (dg (di a)).2.1 (dh (di a)).1 (dh (di a)).2.1 (dj a).1 (dj a).2 o p q h i c j k d e f g b l m r n s t u v w x y z A C D h i c j k d e f g b l m a.1 a.2.1 a.2.2.1 a.2.2.2.1 (d4 a).1 (d4 a).2.1 (d6 a).1 (d6 a).2.1 (d8 a).1 (d8 a).2.1 (df a).1 Q.1 E0 Q.1 (Xg Q.1:Int) 0):=by kernel_rfl
noncomputable def ZwB:Fn:=⟨11,[4],[],[],0,[],[],Tryz.f174,[.agg hs31,.c (.int .i64)],[.agg hs31],[]⟩
def Zyy:ZwB.S.Ok Tryz.prog 174:=ZwB.ok Tryz.func174
noncomputable def ZAo (a c d e f h:Int) (j:Bool) (k:Int):Option (Qt42):=ZwB.S.g [.i a,.i c,.i d,.i e,.i f,.i h,.b j,.i k]
def ZrU (a b c d e f:Int) (g:Bool) (h:Int):ZAo a b c d e f g h =
 (Xa (a,b,c,(P1 .and .i64 d h),e,f,g)):=by kernel_rfl
noncomputable def Zvf:Fn:=⟨57,[4,5],[],[0],0,[],[],Tryz.f132,[.box hs5,.c (.int .i64)],[.c (.own Xb 52),.c (.int .i64)],[(134,ZsX.S),(174,ZwB.S),(173,Zwj.S)]⟩
def Ztw:Zvf.S.Ok Tryz.prog 132:=Zvf.ok Tryz.func132 ⟨ZrO,⟨Zyy,⟨ZvF,trivial⟩⟩⟩
noncomputable def Ztf (a c d:Int) (e:Bool) (f h:LL) (j k m n o p q r s t u v w x y z A C D E:Int) (G:LL) (H J K L M N:Int) (O:Bool) (P:Int) (Q R T:LL) (U:Int):Option (Qt11):=Zvf.S.g [.i a,.i c,.i d,.b e,.l f,.l h,.i j,.i k,.i m,.i n,.i o,.i p,.i q,.i r,.i s,.i t,.i u,.i v,.i w,.i x,.i y,.i z,.i A,.i C,.i D,.i E,.l G,.i H,.i J,.i K,.i L,.i M,.i N,.b O,.i P,.l Q,.l R,.l T,.i U]
def ZqQ (i j k:Int) (l:Bool) (m n:LL) (e f g o p c q h r s t u v w x y z A C D:Int) (E:LL) (G H J K L M:Int) (N:Bool) (O:Int) (P Q R:LL) (T:Int):Ztf i j k l m n e f g o p c q h r s t u v w x y z A C D E G H J K L M N O P Q R T =
 (if P0 .lss c 0 then
 Xa (E0,1,i,j,k,l,m,n,e,f,g,o,p,c,q,h,r,s,t,u,v,w,x,y,z,A,C,D,E,G,H,J,K,L,M,N,O,P,Q,R)
 else
 if P0 .geq c 64 then
 Xa (E0,1,i,j,k,l,m,n,e,f,g,o,p,c,q,h,r,s,t,u,v,w,x,y,z,A,C,D,E,G,H,J,K,L,M,N,O,P,Q,R)
 else
 (Zs6 i j k l m n e f g o p c q h r s t u v w x y z A C D E G H J K L M N O P Q R).bind fun a=>
 if (!(df a).2.1) then
 Xa (E0,2,(dg a).1,(dg a).2.1,(dh a).1,(dh a).2.1,(P2 a).1,(P2 a).2.1,(d2 (P2 a)).1,(d2 (P2 a)).2.1,(d4 (P2 a)).1,(d4 (P2 a)).2.1,(d6 (P2 a)).1,(d6 (P2 a)).2.1,(d8 (P2 a)).1,(d8 (P2 a)).2.1,(df (P2 a)).1,(df (P2 a)).2.1,(dg (P2 a)).1,(dg (P2 a)).2.1,(dh (P2 a)).1,(dh (P2 a)).2.1,(di a).1,(di a).2.1,(d2 (di a)).1,(d2 (di a)).2.1,(d4 (di a)).1,(d4 (di a)).2.1,(d6 (di a)).1,(d6 (di a)).2.1,(d8 (di a)).1,(d8 (di a)).2.1,(df (di a)).1,(df (di a)).2.1,(dg (di a)).1,(dg (di a)).2.1,(dh (di a)).1,(dh (di a)).2.1,(dj a).1,(dj a).2)
 else
 (ZAo (d4 a).1 (d4 a).2.1 (d6 a).1 (d6 a).2.1 (d8 a).1 (d8 a).2.1 (df a).1 h).bind fun d=>
 (ZuN a.1 a.2.1 a.2.2.1 a.2.2.2.1 (d4 a).1 (d4 a).2.1 (d6 a).1 (d6 a).2.1 (d8 a).1 (d8 a).2.1 (df a).1 e f g d.1 d.2.1 d.2.2.1 d.2.2.2.1 (d4 d).1 (d4 d).2.1 d.2.2.2.2.2.2).bind fun b=>
 if P0 .neq b.2.2.2.2.2.2.2.2.2.2.2 0 then
 Xa (E0,b.2.2.2.2.2.2.2.2.2.2.2,(dg a).1,(dg a).2.1,(dh a).1,(dh a).2.1,(P2 a).1,(P2 a).2.1,(d2 (P2 a)).1,(d2 (P2 a)).2.1,(d4 (P2 a)).1,(d4 (P2 a)).2.1,(d6 (P2 a)).1,(d6 (P2 a)).2.1,(d8 (P2 a)).1,(d8 (P2 a)).2.1,(df (P2 a)).1,(df (P2 a)).2.1,(dg (P2 a)).1,(dg (P2 a)).2.1,(dh (P2 a)).1,(dh (P2 a)).2.1,(di a).1,(di a).2.1,(d2 (di a)).1,(d2 (di a)).2.1,(d4 (di a)).1,(d4 (di a)).2.1,(d6 (di a)).1,(d6 (di a)).2.1,(d8 (di a)).1,(d8 (di a)).2.1,(df (di a)).1,(df (di a)).2.1,(dg (di a)).1,(dg (di a)).2.1,(dh (di a)).1,(dh (di a)).2.1,(dj a).1,(dj a).2)
 else
 Xa ((E0++[[I T,I c,I b.1,I b.2.1,I b.2.2.1,AV.slice Xb 3 b.2.2.2.1,I (d4 b).1,I (d4 b).2.1,I (d6 b).1,I (d6 b).2.1,I (d8 b).1,I (d8 b).2.1,B (df b).1]]),0,(dg a).1,(dg a).2.1,(dh a).1,(dh a).2.1,(P2 a).1,(P2 a).2.1,(d2 (P2 a)).1,(d2 (P2 a)).2.1,(d4 (P2 a)).1,(d4 (P2 a)).2.1,(d6 (P2 a)).1,(d6 (P2 a)).2.1,(d8 (P2 a)).1,(d8 (P2 a)).2.1,(df (P2 a)).1,(df (P2 a)).2.1,(dg (P2 a)).1,(dg (P2 a)).2.1,(dh (P2 a)).1,(dh (P2 a)).2.1,(di a).1,(di a).2.1,(d2 (di a)).1,(d2 (di a)).2.1,(d4 (di a)).1,(d4 (di a)).2.1,(d6 (di a)).1,(d6 (di a)).2.1,(d8 (di a)).1,(d8 (di a)).2.1,(df (di a)).1,(df (di a)).2.1,(dg (di a)).1,(dg (di a)).2.1,(dh (di a)).1,(dh (di a)).2.1,(dj a).1,(dj a).2)):=by kernel_rfl
noncomputable def Zw1:Fn:=⟨67,[2],[],[0],0,[46],[],Tryz.f133,[.box hs5],[.c (.own Xb 76)],[(48,F48.S),(132,Zvf.S),(169,Zs3.S),(95,F95.S),(58,F58.S)]⟩
def Zy7:Zw1.S.Ok Tryz.prog 133:=Zw1.ok Tryz.func133 ⟨Zwh,⟨Ztw,⟨Zws,⟨Zyn,⟨Zu6,trivial⟩⟩⟩⟩⟩
noncomputable def ZsS (a c d:Int) (e:Bool) (f h:LL) (j k m n o p q r s t u v w x y z A C D E:Int) (G:LL) (H J K L M N:Int) (O:Bool) (P:Int) (Q R T:LL):Option (Qt14):=Zw1.S.g [.i a,.i c,.i d,.b e,.l f,.l h,.i j,.i k,.i m,.i n,.i o,.i p,.i q,.i r,.i s,.i t,.i u,.i v,.i w,.i x,.i y,.i z,.i A,.i C,.i D,.i E,.l G,.i H,.i J,.i K,.i L,.i M,.i N,.b O,.i P,.l Q,.l R,.l T]
def ZlX (j k l:Int) (m:Bool) (n o:LL) (p q r s t i f u v w x y z A C D E G H J:Int) (K:LL) (L M O P Q R:Int) (T:Bool) (U:Int) (V W X:LL):ZsS j k l m n o p q r s t i f u v w x y z A C D E G H J K L M O P Q R T U V W X =
 (if P0 .lss f 0 then
 (g48 j k l m n o p q r s t i f u v w x y z A C D E G H J K L M O P Q R T U V W X 1 Xb E0).bind fun c=>
 Xa (c.1,c.2.1,c.2.2.1,c.2.2.2.1,(d4 c).1,(d4 c).2.1,(d6 c).1,(d6 c).2.1,(d8 c).1,(d8 c).2.1,(df c).1,(df c).2.1,(dg c).1,(dg c).2.1,(dh c).1,(dh c).2.1,(P2 c).1,(P2 c).2.1,(d2 (P2 c)).1,(d2 (P2 c)).2.1,(d4 (P2 c)).1,(d4 (P2 c)).2.1,(d6 (P2 c)).1,(d6 (P2 c)).2.1,(d8 (P2 c)).1,(d8 (P2 c)).2.1,(df (P2 c)).1,(df (P2 c)).2.1,(dg (P2 c)).1,(dg (P2 c)).2.1,(dh (P2 c)).1,(dh (P2 c)).2.1,(di c).1,(di c).2.1,(d2 (di c)).1,(d2 (di c)).2.1,(d4 (di c)).1,(d4 (di c)).2.1,(d6 (di c)))
 else
 if P0 .geq f 32 then
 (g48 j k l m n o p q r s t i f u v w x y z A C D E G H J K L M O P Q R T U V W X 1 Xb E0).bind fun c=>
 Xa (c.1,c.2.1,c.2.2.1,c.2.2.2.1,(d4 c).1,(d4 c).2.1,(d6 c).1,(d6 c).2.1,(d8 c).1,(d8 c).2.1,(df c).1,(df c).2.1,(dg c).1,(dg c).2.1,(dh c).1,(dh c).2.1,(P2 c).1,(P2 c).2.1,(d2 (P2 c)).1,(d2 (P2 c)).2.1,(d4 (P2 c)).1,(d4 (P2 c)).2.1,(d6 (P2 c)).1,(d6 (P2 c)).2.1,(d8 (P2 c)).1,(d8 (P2 c)).2.1,(df (P2 c)).1,(df (P2 c)).2.1,(dg (P2 c)).1,(dg (P2 c)).2.1,(dh (P2 c)).1,(dh (P2 c)).2.1,(di c).1,(di c).2.1,(d2 (di c)).1,(d2 (di c)).2.1,(d4 (di c)).1,(d4 (di c)).2.1,(d6 (di c)))
 else
 (Ztf j k l m n o p q r s t i f u v w x y z A C D E G H J K L M O P Q R T U V W X f).bind fun c=>
 if P0 .eql c.2.1 0 then
 (ZpL c.2.2.1 c.2.2.2.1 (d4 c).1 (d4 c).2.1 (d6 c).1 (d6 c).2.1 (d8 c).1 (d8 c).2.1 (df c).1 (df c).2.1 (dg c).1 (dg c).2.1 (dh c).1 (dh c).2.1 (P2 c).1 (P2 c).2.1 (d2 (P2 c)).1 (d2 (P2 c)).2.1 (d4 (P2 c)).1 (d4 (P2 c)).2.1 (d6 (P2 c)).1 (d6 (P2 c)).2.1 (d8 (P2 c)).1 (d8 (P2 c)).2.1 (df (P2 c)).1 (df (P2 c)).2.1 (dg (P2 c)).1 (dg (P2 c)).2.1 (dh (P2 c)).1 (dh (P2 c)).2.1 (di c).1 (di c).2.1 (d2 (di c)).1 (d2 (di c)).2.1 (d4 (di c)).1 (d4 (di c)).2.1 (d6 (di c)).1 (d6 (di c)).2 c.1).bind fun b=>
 if (!b.1) then
 if P0 .neq 3 0 then
 (g48 b.2.1 b.2.2.1 b.2.2.2.1 (d4 b).1 (d4 b).2.1 (d6 b).1 (d6 b).2.1 (d8 b).1 (d8 b).2.1 (df b).1 (df b).2.1 (dg b).1 (dg b).2.1 (dh b).1 (dh b).2.1 (P2 b).1 (P2 b).2.1 (d2 (P2 b)).1 (d2 (P2 b)).2.1 (d4 (P2 b)).1 (d4 (P2 b)).2.1 (d6 (P2 b)).1 (d6 (P2 b)).2.1 (d8 (P2 b)).1 (d8 (P2 b)).2.1 (df (P2 b)).1 (df (P2 b)).2.1 (dg (P2 b)).1 (dg (P2 b)).2.1 (dh (P2 b)).1 (dh (P2 b)).2.1 (di b).1 (di b).2.1 (d2 (di b)).1 (d2 (di b)).2.1 (d4 (di b)).1 (d4 (di b)).2.1 (d6 (di b)) 3 Xb E0).bind fun a=>
 Xa (a.1,a.2.1,a.2.2.1,a.2.2.2.1,(d4 a).1,(d4 a).2.1,(d6 a).1,(d6 a).2.1,(d8 a).1,(d8 a).2.1,(df a).1,(df a).2.1,(dg a).1,(dg a).2.1,(dh a).1,(dh a).2.1,(P2 a).1,(P2 a).2.1,(d2 (P2 a)).1,(d2 (P2 a)).2.1,(d4 (P2 a)).1,(d4 (P2 a)).2.1,(d6 (P2 a)).1,(d6 (P2 a)).2.1,(d8 (P2 a)).1,(d8 (P2 a)).2.1,(df (P2 a)).1,(df (P2 a)).2.1,(dg (P2 a)).1,(dg (P2 a)).2.1,(dh (P2 a)).1,(dh (P2 a)).2.1,(di a).1,(di a).2.1,(d2 (di a)).1,(d2 (di a)).2.1,(d4 (di a)).1,(d4 (di a)).2.1,(d6 (di a)))
 else
 (g95 b.2.1 b.2.2.1 b.2.2.2.1 (d4 b).1 (d4 b).2.1 (d6 b).1 (d6 b).2.1 (d8 b).1 (d8 b).2.1 (df b).1 (df b).2.1 (dg b).1 (dg b).2.1 (dh b).1 (dh b).2.1 (P2 b).1 (P2 b).2.1 (d2 (P2 b)).1 (d2 (P2 b)).2.1 (d4 (P2 b)).1 (d4 (P2 b)).2.1 (d6 (P2 b)).1 (d6 (P2 b)).2.1 (d8 (P2 b)).1 (d8 (P2 b)).2.1 (df (P2 b)).1 (df (P2 b)).2.1 (dg (P2 b)).1 (dg (P2 b)).2.1 (dh (P2 b)).1 (dh (P2 b)).2.1 (di b).1 (di b).2.1 (d2 (di b)).1 1 (E0++[[I f]]) (d4 (di b)).2.1 (d6 (di b)) 4 f).bind fun a=>
 Zn c.1 0 hs21 fun (d:Qt30)=>
 (g58 d.2.2.1 d.2.2.2.1 (d4 d).1 (d4 d).2.1 (d6 d).1 (d6 d).2.1 (d8 d).1 (d8 d).2.1 (df d).1 (df d).2.1 (dg d)).bind fun e=>
 Xa ((E0++[[I a.1,I a.2.1,I a.2.2.1,I a.2.2.2.1,I (d4 a).1,I (d4 a).2.1,I i,I (d6 a).2.1,I (d8 a).1,I (d8 a).2.1,I (df a).1,B (df a).2.1,I (dg a).1,I (dg a).2.1,I (dh a).1,I (dh a).2.1,I (P2 a).1,I (P2 a).2.1,I (d2 (P2 a)).1,I (d2 (P2 a)).2.1,I (d4 (P2 a)).1,I (d4 (P2 a)).2.1,I (d6 (P2 a)).1,I (d6 (P2 a)).2.1,I (d8 (P2 a)).1,I (d8 (P2 a)).2.1,I (df (P2 a)).1,I (df (P2 a)).2.1,I (dg (P2 a)).1,I (dg (P2 a)).2.1,I (dh (P2 a)).1,I (dh (P2 a)).2.1,AV.slice Xb 3 (di a).1,I (di a).2.1,I (d2 (di a)).1,I (d2 (di a)).2.1,I (d4 (di a)).1,I (d4 (di a)).2.1,I (d6 (di a)).1,B (d6 (di a)).2.1,AV.slice Xb 3 (d8 (di a)).1,AV.slice Xb 11 (E0++[[I e.1,I e.2.1,I e.2.2.1,AV.slice Xb 3 e.2.2.2.1,I (d4 e).1,I (d4 e).2.1,I (d6 e).1,I (d6 e).2.1,I (d8 e).1,I (d8 e).2.1,B e.2.2.2.2.2.2.2.2.2.2]]),AV.slice Xb 1 (df (di a)).1,AV.slice Xb 2 (df (di a)).2.1,I (dg (di a)).1,I (dg (di a)).2.1,AV.slice Xb 1 (dh (di a)).1,AV.slice Xb 1 (dh (di a)).2.1,AV.slice Xb 15 (dj a).1,AV.slice Xb 28 (dj a).2.1,AV.slice Xb 4 (d2 (dj a)).1,AV.slice Xb 2 (d2 (dj a)).2.1,AV.slice Xb 13 (d4 (dj a)).1,AV.slice Xb 3 (d4 (dj a)).2.1,I (d6 (dj a)).1,I (d6 (dj a)).2.1,AV.slice Xb 1 (d8 (dj a)).1,AV.slice Xb 1 (d8 (dj a)).2.1,AV.slice Xb 15 (df (dj a)).1,AV.slice Xb 28 (df (dj a)).2.1,AV.slice Xb 4 (dg (dj a)).1,AV.slice Xb 2 (dg (dj a)).2.1,AV.slice Xb 13 (dh (dj a)).1,AV.slice Xb 3 (dh (dj a)).2.1,B (dk a).1,I (dk a).2.1,AV.slice Xb 1 (d2 (dk a)).1,AV.slice Xb 1 (d2 (dk a)).2.1,AV.slice Xb 15 (d4 (dk a)).1,AV.slice Xb 28 (d4 (dk a)).2.1,AV.slice Xb 4 (d6 (dk a)).1,AV.slice Xb 2 (d6 (dk a)).2.1,AV.slice Xb 13 (d8 (dk a)).1,AV.slice Xb 3 (d8 (dk a)).2.1]]),(df (dk a)).1,(df (dk a)).2.1,(dg (dk a)).1,(dg (dk a)).2.1,(dh (dk a)).1,(dh (dk a)).2.1,(dl a).1,(dl a).2.1,(d2 (dl a)).1,(d2 (dl a)).2.1,(d4 (dl a)).1,(d4 (dl a)).2.1,(d6 (dl a)).1,(d6 (dl a)).2.1,(d8 (dl a)).1,(d8 (dl a)).2.1,(df (dl a)).1,(df (dl a)).2.1,(dg (dl a)).1,(dg (dl a)).2.1,(dh (dl a)).1,(dh (dl a)).2.1,(P2 (dl a)).1,(P2 (dl a)).2.1,(d2 (P2 (dl a))).1,(d2 (P2 (dl a))).2.1,(d4 (P2 (dl a))).1,(d4 (P2 (dl a))).2.1,(d6 (P2 (dl a))).1,(d6 (P2 (dl a))).2.1,(d8 (P2 (dl a))).1,(d8 (P2 (dl a))).2.1,(df (P2 (dl a))).1,(df (P2 (dl a))).2.1,(dg (P2 (dl a))).1,(dg (P2 (dl a))).2.1,(dh (P2 (dl a))).1,(dh (P2 (dl a))).2)
 else
 if P0 .neq c.2.1 0 then
 (g48 b.2.1 b.2.2.1 b.2.2.2.1 (d4 b).1 (d4 b).2.1 (d6 b).1 (d6 b).2.1 (d8 b).1 (d8 b).2.1 (df b).1 (df b).2.1 (dg b).1 (dg b).2.1 (dh b).1 (dh b).2.1 (P2 b).1 (P2 b).2.1 (d2 (P2 b)).1 (d2 (P2 b)).2.1 (d4 (P2 b)).1 (d4 (P2 b)).2.1 (d6 (P2 b)).1 (d6 (P2 b)).2.1 (d8 (P2 b)).1 (d8 (P2 b)).2.1 (df (P2 b)).1 (df (P2 b)).2.1 (dg (P2 b)).1 (dg (P2 b)).2.1 (dh (P2 b)).1 (dh (P2 b)).2.1 (di b).1 (di b).2.1 (d2 (di b)).1 (d2 (di b)).2.1 (d4 (di b)).1 (d4 (di b)).2.1 (d6 (di b)) c.2.1 Xb E0).bind fun a=>
 Xa (a.1,a.2.1,a.2.2.1,a.2.2.2.1,(d4 a).1,(d4 a).2.1,(d6 a).1,(d6 a).2.1,(d8 a).1,(d8 a).2.1,(df a).1,(df a).2.1,(dg a).1,(dg a).2.1,(dh a).1,(dh a).2.1,(P2 a).1,(P2 a).2.1,(d2 (P2 a)).1,(d2 (P2 a)).2.1,(d4 (P2 a)).1,(d4 (P2 a)).2.1,(d6 (P2 a)).1,(d6 (P2 a)).2.1,(d8 (P2 a)).1,(d8 (P2 a)).2.1,(df (P2 a)).1,(df (P2 a)).2.1,(dg (P2 a)).1,(dg (P2 a)).2.1,(dh (P2 a)).1,(dh (P2 a)).2.1,(di a).1,(di a).2.1,(d2 (di a)).1,(d2 (di a)).2.1,(d4 (di a)).1,(d4 (di a)).2.1,(d6 (di a)))
 else
 (g95 b.2.1 b.2.2.1 b.2.2.2.1 (d4 b).1 (d4 b).2.1 (d6 b).1 (d6 b).2.1 (d8 b).1 (d8 b).2.1 (df b).1 (df b).2.1 (dg b).1 (dg b).2.1 (dh b).1 (dh b).2.1 (P2 b).1 (P2 b).2.1 (d2 (P2 b)).1 (d2 (P2 b)).2.1 (d4 (P2 b)).1 (d4 (P2 b)).2.1 (d6 (P2 b)).1 (d6 (P2 b)).2.1 (d8 (P2 b)).1 (d8 (P2 b)).2.1 (df (P2 b)).1 (df (P2 b)).2.1 (dg (P2 b)).1 (dg (P2 b)).2.1 (dh (P2 b)).1 (dh (P2 b)).2.1 (di b).1 (di b).2.1 (d2 (di b)).1 1 (E0++[[I f]]) (d4 (di b)).2.1 (d6 (di b)) 4 f).bind fun a=>
 Zn c.1 0 hs21 fun (d:Qt30)=>
 (g58 d.2.2.1 d.2.2.2.1 (d4 d).1 (d4 d).2.1 (d6 d).1 (d6 d).2.1 (d8 d).1 (d8 d).2.1 (df d).1 (df d).2.1 (dg d)).bind fun e=>
 Xa ((E0++[[I a.1,I a.2.1,I a.2.2.1,I a.2.2.2.1,I (d4 a).1,I (d4 a).2.1,I i,I (d6 a).2.1,I (d8 a).1,I (d8 a).2.1,I (df a).1,B (df a).2.1,I (dg a).1,I (dg a).2.1,I (dh a).1,I (dh a).2.1,I (P2 a).1,I (P2 a).2.1,I (d2 (P2 a)).1,I (d2 (P2 a)).2.1,I (d4 (P2 a)).1,I (d4 (P2 a)).2.1,I (d6 (P2 a)).1,I (d6 (P2 a)).2.1,I (d8 (P2 a)).1,I (d8 (P2 a)).2.1,I (df (P2 a)).1,I (df (P2 a)).2.1,I (dg (P2 a)).1,I (dg (P2 a)).2.1,I (dh (P2 a)).1,I (dh (P2 a)).2.1,AV.slice Xb 3 (di a).1,I (di a).2.1,I (d2 (di a)).1,I (d2 (di a)).2.1,I (d4 (di a)).1,I (d4 (di a)).2.1,I (d6 (di a)).1,B (d6 (di a)).2.1,AV.slice Xb 3 (d8 (di a)).1,AV.slice Xb 11 (E0++[[I e.1,I e.2.1,I e.2.2.1,AV.slice Xb 3 e.2.2.2.1,I (d4 e).1,I (d4 e).2.1,I (d6 e).1,I (d6 e).2.1,I (d8 e).1,I (d8 e).2.1,B e.2.2.2.2.2.2.2.2.2.2]]),AV.slice Xb 1 (df (di a)).1,AV.slice Xb 2 (df (di a)).2.1,I (dg (di a)).1,I (dg (di a)).2.1,AV.slice Xb 1 (dh (di a)).1,AV.slice Xb 1 (dh (di a)).2.1,AV.slice Xb 15 (dj a).1,AV.slice Xb 28 (dj a).2.1,AV.slice Xb 4 (d2 (dj a)).1,AV.slice Xb 2 (d2 (dj a)).2.1,AV.slice Xb 13 (d4 (dj a)).1,AV.slice Xb 3 (d4 (dj a)).2.1,I (d6 (dj a)).1,I (d6 (dj a)).2.1,AV.slice Xb 1 (d8 (dj a)).1,AV.slice Xb 1 (d8 (dj a)).2.1,AV.slice Xb 15 (df (dj a)).1,AV.slice Xb 28 (df (dj a)).2.1,AV.slice Xb 4 (dg (dj a)).1,AV.slice Xb 2 (dg (dj a)).2.1,AV.slice Xb 13 (dh (dj a)).1,AV.slice Xb 3 (dh (dj a)).2.1,B (dk a).1,I (dk a).2.1,AV.slice Xb 1 (d2 (dk a)).1,AV.slice Xb 1 (d2 (dk a)).2.1,AV.slice Xb 15 (d4 (dk a)).1,AV.slice Xb 28 (d4 (dk a)).2.1,AV.slice Xb 4 (d6 (dk a)).1,AV.slice Xb 2 (d6 (dk a)).2.1,AV.slice Xb 13 (d8 (dk a)).1,AV.slice Xb 3 (d8 (dk a)).2.1]]),(df (dk a)).1,(df (dk a)).2.1,(dg (dk a)).1,(dg (dk a)).2.1,(dh (dk a)).1,(dh (dk a)).2.1,(dl a).1,(dl a).2.1,(d2 (dl a)).1,(d2 (dl a)).2.1,(d4 (dl a)).1,(d4 (dl a)).2.1,(d6 (dl a)).1,(d6 (dl a)).2.1,(d8 (dl a)).1,(d8 (dl a)).2.1,(df (dl a)).1,(df (dl a)).2.1,(dg (dl a)).1,(dg (dl a)).2.1,(dh (dl a)).1,(dh (dl a)).2.1,(P2 (dl a)).1,(P2 (dl a)).2.1,(d2 (P2 (dl a))).1,(d2 (P2 (dl a))).2.1,(d4 (P2 (dl a))).1,(d4 (P2 (dl a))).2.1,(d6 (P2 (dl a))).1,(d6 (P2 (dl a))).2.1,(d8 (P2 (dl a))).1,(d8 (P2 (dl a))).2.1,(df (P2 (dl a))).1,(df (P2 (dl a))).2.1,(dg (P2 (dl a))).1,(dg (P2 (dl a))).2.1,(dh (P2 (dl a))).1,(dh (P2 (dl a))).2)
 else
 if P0 .neq c.2.1 0 then
 (g48 c.2.2.1 c.2.2.2.1 (d4 c).1 (d4 c).2.1 (d6 c).1 (d6 c).2.1 (d8 c).1 (d8 c).2.1 (df c).1 (df c).2.1 (dg c).1 (dg c).2.1 (dh c).1 (dh c).2.1 (P2 c).1 (P2 c).2.1 (d2 (P2 c)).1 (d2 (P2 c)).2.1 (d4 (P2 c)).1 (d4 (P2 c)).2.1 (d6 (P2 c)).1 (d6 (P2 c)).2.1 (d8 (P2 c)).1 (d8 (P2 c)).2.1 (df (P2 c)).1 (df (P2 c)).2.1 (dg (P2 c)).1 (dg (P2 c)).2.1 (dh (P2 c)).1 (dh (P2 c)).2.1 (di c).1 (di c).2.1 (d2 (di c)).1 (d2 (di c)).2.1 (d4 (di c)).1 (d4 (di c)).2.1 (d6 (di c)).1 (d6 (di c)).2 c.2.1 Xb E0).bind fun b=>
 Xa (b.1,b.2.1,b.2.2.1,b.2.2.2.1,(d4 b).1,(d4 b).2.1,(d6 b).1,(d6 b).2.1,(d8 b).1,(d8 b).2.1,(df b).1,(df b).2.1,(dg b).1,(dg b).2.1,(dh b).1,(dh b).2.1,(P2 b).1,(P2 b).2.1,(d2 (P2 b)).1,(d2 (P2 b)).2.1,(d4 (P2 b)).1,(d4 (P2 b)).2.1,(d6 (P2 b)).1,(d6 (P2 b)).2.1,(d8 (P2 b)).1,(d8 (P2 b)).2.1,(df (P2 b)).1,(df (P2 b)).2.1,(dg (P2 b)).1,(dg (P2 b)).2.1,(dh (P2 b)).1,(dh (P2 b)).2.1,(di b).1,(di b).2.1,(d2 (di b)).1,(d2 (di b)).2.1,(d4 (di b)).1,(d4 (di b)).2.1,(d6 (di b)))
 else
 (g95 c.2.2.1 c.2.2.2.1 (d4 c).1 (d4 c).2.1 (d6 c).1 (d6 c).2.1 (d8 c).1 (d8 c).2.1 (df c).1 (df c).2.1 (dg c).1 (dg c).2.1 (dh c).1 (dh c).2.1 (P2 c).1 (P2 c).2.1 (d2 (P2 c)).1 (d2 (P2 c)).2.1 (d4 (P2 c)).1 (d4 (P2 c)).2.1 (d6 (P2 c)).1 (d6 (P2 c)).2.1 (d8 (P2 c)).1 (d8 (P2 c)).2.1 (df (P2 c)).1 (df (P2 c)).2.1 (dg (P2 c)).1 (dg (P2 c)).2.1 (dh (P2 c)).1 (dh (P2 c)).2.1 (di c).1 (di c).2.1 (d2 (di c)).1 (d2 (di c)).2.1 1 (E0++[[I f]]) (d6 (di c)).1 (d6 (di c)).2 4 f).bind fun b=>
 Zn c.1 0 hs21 fun (g:Qt30)=>
 (g58 g.2.2.1 g.2.2.2.1 (d4 g).1 (d4 g).2.1 (d6 g).1 (d6 g).2.1 (d8 g).1 (d8 g).2.1 (df g).1 (df g).2.1 (dg g)).bind fun h=>
 Xa ((E0++[[I b.1,I b.2.1,I b.2.2.1,I b.2.2.2.1,I (d4 b).1,I (d4 b).2.1,I i,I (d6 b).2.1,I (d8 b).1,I (d8 b).2.1,I (df b).1,B (df b).2.1,I (dg b).1,I (dg b).2.1,I (dh b).1,I (dh b).2.1,I (P2 b).1,I (P2 b).2.1,I (d2 (P2 b)).1,I (d2 (P2 b)).2.1,I (d4 (P2 b)).1,I (d4 (P2 b)).2.1,I (d6 (P2 b)).1,I (d6 (P2 b)).2.1,I (d8 (P2 b)).1,I (d8 (P2 b)).2.1,I (df (P2 b)).1,I (df (P2 b)).2.1,I (dg (P2 b)).1,I (dg (P2 b)).2.1,I (dh (P2 b)).1,I (dh (P2 b)).2.1,AV.slice Xb 3 (di b).1,I (di b).2.1,I (d2 (di b)).1,I (d2 (di b)).2.1,I (d4 (di b)).1,I (d4 (di b)).2.1,I (d6 (di b)).1,B (d6 (di b)).2.1,AV.slice Xb 3 (d8 (di b)).1,AV.slice Xb 11 (E0++[[I h.1,I h.2.1,I h.2.2.1,AV.slice Xb 3 h.2.2.2.1,I (d4 h).1,I (d4 h).2.1,I (d6 h).1,I (d6 h).2.1,I (d8 h).1,I (d8 h).2.1,B h.2.2.2.2.2.2.2.2.2.2]]),AV.slice Xb 1 (df (di b)).1,AV.slice Xb 2 (df (di b)).2.1,I (dg (di b)).1,I (dg (di b)).2.1,AV.slice Xb 1 (dh (di b)).1,AV.slice Xb 1 (dh (di b)).2.1,AV.slice Xb 15 (dj b).1,AV.slice Xb 28 (dj b).2.1,AV.slice Xb 4 (d2 (dj b)).1,AV.slice Xb 2 (d2 (dj b)).2.1,AV.slice Xb 13 (d4 (dj b)).1,AV.slice Xb 3 (d4 (dj b)).2.1,I (d6 (dj b)).1,I (d6 (dj b)).2.1,AV.slice Xb 1 (d8 (dj b)).1,AV.slice Xb 1 (d8 (dj b)).2.1,AV.slice Xb 15 (df (dj b)).1,AV.slice Xb 28 (df (dj b)).2.1,AV.slice Xb 4 (dg (dj b)).1,AV.slice Xb 2 (dg (dj b)).2.1,AV.slice Xb 13 (dh (dj b)).1,AV.slice Xb 3 (dh (dj b)).2.1,B (dk b).1,I (dk b).2.1,AV.slice Xb 1 (d2 (dk b)).1,AV.slice Xb 1 (d2 (dk b)).2.1,AV.slice Xb 15 (d4 (dk b)).1,AV.slice Xb 28 (d4 (dk b)).2.1,AV.slice Xb 4 (d6 (dk b)).1,AV.slice Xb 2 (d6 (dk b)).2.1,AV.slice Xb 13 (d8 (dk b)).1,AV.slice Xb 3 (d8 (dk b)).2.1]]),(df (dk b)).1,(df (dk b)).2.1,(dg (dk b)).1,(dg (dk b)).2.1,(dh (dk b)).1,(dh (dk b)).2.1,(dl b).1,(dl b).2.1,(d2 (dl b)).1,(d2 (dl b)).2.1,(d4 (dl b)).1,(d4 (dl b)).2.1,(d6 (dl b)).1,(d6 (dl b)).2.1,(d8 (dl b)).1,(d8 (dl b)).2.1,(df (dl b)).1,(df (dl b)).2.1,(dg (dl b)).1,(dg (dl b)).2.1,(dh (dl b)).1,(dh (dl b)).2.1,(P2 (dl b)).1,(P2 (dl b)).2.1,(d2 (P2 (dl b))).1,(d2 (P2 (dl b))).2.1,(d4 (P2 (dl b))).1,(d4 (P2 (dl b))).2.1,(d6 (P2 (dl b))).1,(d6 (P2 (dl b))).2.1,(d8 (P2 (dl b))).1,(d8 (P2 (dl b))).2.1,(df (P2 (dl b))).1,(df (P2 (dl b))).2.1,(dg (P2 (dl b))).1,(dg (P2 (dl b))).2.1,(dh (P2 (dl b))).1,(dh (P2 (dl b))).2)):=by kernel_rfl
end Go.Proofs.YtnkmbgbpkgmbnaaGreat
