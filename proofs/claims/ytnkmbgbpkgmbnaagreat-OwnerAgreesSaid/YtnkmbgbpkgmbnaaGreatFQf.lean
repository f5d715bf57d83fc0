import Derived.Test.YtnkmbgbpkgmbnaaGreatBQe
open Option renaming some→Xa
open List renaming length→Xg
open Go.IntKind renaming wrap→Xl
set_option linter.unusedVariables false
set_option linter.unusedSimpArgs false
set_option linter.defProp false
namespace Go.Proofs.YtnkmbgbpkgmbnaaGreat
open Go Go.AM
set_option maxRecDepth 100000
noncomputable def Zw6:Fn:=⟨17,[4],[],[],0,[],[],Tryz.f155,[.c (.int .i64),.c (.int .i64)],[.c (.bool)],[(191,Zv7.S)]⟩
def ZzU:Zw6.S.Ok Tryz.prog 155:=Zw6.ok Tryz.func155 ⟨ZvZ,trivial⟩
noncomputable def ZxW (a b:Int):Option (Bool):=Zw6.S.g [.i a,.i b]
def Zsh (a b:Int):ZxW a b =
 ((ZrP a).bind fun c=>
 if c then
 (ZrP b).bind fun d=>
 if (!d) then
 Xa (true)
 else
 Xa ((P0 .lss a b))
 else
 Xa ((P0 .lss a b))):=by kernel_rfl
noncomputable def ZwX:Fn:=⟨6,[2],[],[],0,[],[],Tryz.f156,[.c (.int .i64)],[.c (.bool)],[]⟩
def Zzx:ZwX.S.Ok Tryz.prog 156:=ZwX.ok Tryz.func156
noncomputable def ZyX (a:Int):Option (Bool):=ZwX.S.g [.i a]
def Zsr (a:Int):ZyX a =
 (Xa ((P0 .neq a a))):=by kernel_rfl
noncomputable def F96:Fn:=⟨54,[4,5],[(3,[(0,.c (.slice 1)),(1,.c (.int .i64)),(6,.c (.int .i64)),(7,.c (.int .i64)),(8,.c (.int .i64))])],[],0,[],[],Tryz.f96,[.c (.slice 1),.c (.int .i64)],[.c (.int .i64),.c (.bool)],[(155,Zw6.S),(156,ZwX.S)]⟩
def ZAR:F96.S.Ok Tryz.prog 96:=F96.ok Tryz.func96 ⟨ZzU,⟨Zzx,trivial⟩⟩
noncomputable def g96 (a:LL) (b:Int):Option (Int×Bool):=F96.S.g [.l a,.i b]
noncomputable def ZmG (k:Nat) (a:LL) (b c d e:Int):Option (Int×Bool):=F96.lp [0] 0 r0 k [.l a,.i b,.i c,.i d,.i e]
def Zi0 (k:Nat) (b:LL) (c e a d:Int):ZmG (k+1) b c e a d =
 (if P0 .lss a d then
 Zl ((0:Int)≤1)<|
 Zn b (Xl .i64 (P1 .shr .u64 (Xl .u64 (P1 .add .i64 a d)) 1)) [.int .i64] fun (f:Int)=>
 (ZxW f c).bind fun g=>
 if g then
 ZmG k b c e (P1 .add .i64 (Xl .i64 (P1 .shr .u64 (Xl .u64 (P1 .add .i64 a d)) 1)) 1) d
 else
 ZmG k b c e a (Xl .i64 (P1 .shr .u64 (Xl .u64 (P1 .add .i64 a d)) 1))
 else
 if P0 .lss a e then
 Zn b a [.int .i64] fun (f:Int)=>
 if P0 .eql f c then
 Xa (a,true)
 else
 Zn b a [.int .i64] fun (g:Int)=>
 (ZyX g).bind fun h=>
 if h then
 (ZyX c).bind fun i=>
 Xa (a,i)
 else
 Xa (a,false)
 else
 Xa (a,false)):=by kernel_rfl
def ZuX (a:LL) (b:Int):g96 a b =
 (ZmG ZG a b (Xg a:Int) 0 (Xg a:Int)):=by kernel_rfl
noncomputable def F97.S:Fun:=ZwG true 3
def ZAM:F97.S.Ok Tryz.prog 97:=delF_ok (T:=23) (B:=4) (I:=3) (U:=0) (e:=3) (bytes:=8) mixed (by kernel_rfl) Tryz.func97 (by kernel_rfl) ⟨by kernel_rfl,by kernel_rfl,by kernel_rfl⟩
noncomputable def g97 (a:LL) (b c:Int):Option LL:=F97.S.g [.l a,.i b,.i c]
def Zty (a:LL) (b c:Int):g97 a b c=ZqB a b c:=rfl
noncomputable def F49:Fn:=⟨35,[4],[],[0],0,[],[],Tryz.f49,[.box hs5,.c (.int .i64)],[.c (.bool)],[(96,F96.S),(97,F97.S)]⟩
def ZBc:F49.S.Ok Tryz.prog 49:=F49.ok Tryz.func49 ⟨ZAR,⟨ZAM,trivial⟩⟩
noncomputable def g49 (a c d:Int) (e:Bool) (f h:LL) (j k m n o p q r s t u v w x y z A C D E:Int) (G:LL) (H J K L M N:Int) (O:Bool) (P:Int) (Q R T:LL) (U:Int):Option (Qt13):=F49.S.g [.i a,.i c,.i d,.b e,.l f,.l h,.i j,.i k,.i m,.i n,.i o,.i p,.i q,.i r,.i s,.i t,.i u,.i v,.i w,.i x,.i y,.i z,.i A,.i C,.i D,.i E,.l G,.i H,.i J,.i K,.i L,.i M,.i N,.b O,.i P,.l Q,.l R,.l T,.i U]
def ZvX (b c d:Int) (e:Bool) (f g:LL) (h i j k l m n o p q r s t u v w x y z A:Int) (C:LL) (D E G H J K:Int) (L:Bool) (M:Int) (a N O:LL) (Q:Int):g49 b c d e f g h i j k l m n o p q r s t u v w x y z A C D E G H J K L M a N O Q =
 ((g96 a Q).bind fun P=>
 if (!P.2) then
 Xa (false,b,c,d,e,f,g,h,i,j,k,l,m,n,o,p,q,r,s,t,u,v,w,x,y,z,A,C,D,E,G,H,J,K,L,M,a,N,O)
 else
 (g97 a P.1 (P1 .add .i64 P.1 1)).bind fun R=>
 Xa ((P0 .eql (Xg R:Int) 0),b,c,d,e,f,g,h,i,j,k,l,m,n,o,p,q,r,s,t,u,v,w,x,y,z,A,C,D,E,G,H,J,K,L,M,R,N,O)):=by kernel_rfl
noncomputable def F15:Fn:=⟨8,[2],[],[0],0,[],[(1000000,[(2,0)])],Tryz.f15,[.box hs5],[.c (.own false 52)],[(45,F45.S)]⟩
def Zz0:F15.S.Ok Tryz.prog 15:=F15.ok Tryz.func15 ⟨Zya,trivial⟩
noncomputable def g15 (a c d:Int) (e:Bool) (f h:LL) (j k m n o p q r s t u v w x y z A C D E:Int) (G:LL) (H J K L M N:Int) (O:Bool) (P:Int) (Q R T:LL):Option (Qt14):=F15.S.g [.i a,.i c,.i d,.b e,.l f,.l h,.i j,.i k,.i m,.i n,.i o,.i p,.i q,.i r,.i s,.i t,.i u,.i v,.i w,.i x,.i y,.i z,.i A,.i C,.i D,.i E,.l G,.i H,.i J,.i K,.i L,.i M,.i N,.b O,.i P,.l Q,.l R,.l T]
def Zvo (b c d:Int) (e:Bool) (a f:LL) (g h i j k l m n o p q r s t u v w x y z:Int) (A:LL) (C D E G H J:Int) (K:Bool) (L:Int) (M N O:LL):g15 b c d e a f g h i j k l m n o p q r s t u v w x y z A C D E G H J K L M N O =
 ((g45 a).bind fun P=>
 Xa (P,b,c,d,e,a,f,g,h,i,j,k,l,m,n,o,p,q,r,s,t,u,v,w,x,y,z,A,C,D,E,G,H,J,K,L,M,N,O)):=by kernel_rfl
noncomputable def F17:Fn:=⟨13,[2,3],[],[0],0,[],[],Tryz.f17,[.box hs5],[.agg hs9,.c (.int .i64)],[(42,F42.S)]⟩
def ZAT:F17.S.Ok Tryz.prog 17:=F17.ok Tryz.func17 ⟨ZAF,trivial⟩
noncomputable def g17 (a c d:Int) (e:Bool) (f h:LL) (j k m n o p q r s t u v w x y z A C D E:Int) (G:LL) (H J K L M N:Int) (O:Bool) (P:Int) (Q R T:LL):Option (Qt8):=F17.S.g [.i a,.i c,.i d,.b e,.l f,.l h,.i j,.i k,.i m,.i n,.i o,.i p,.i q,.i r,.i s,.i t,.i u,.i v,.i w,.i x,.i y,.i z,.i A,.i C,.i D,.i E,.l G,.i H,.i J,.i K,.i L,.i M,.i N,.b O,.i P,.l Q,.l R,.l T]
def Zuo (G H J:Int) (K:Bool) (L M:LL) (b c d e f g h i j k l m n o p q r s t u:Int) (v:LL) (w x y z A C:Int) (D:Bool) (E:Int) (O P Q:LL):g17 G H J K L M b c d e f g h i j k l m n o p q r s t u v w x y z A C D E O P Q =
 ((g42 b c d e f g h i j k l m n o p q r s t u v w x y z A C D).bind fun a=>
 Xa (a.1,a.2.1,a.2.2.1,a.2.2.2.1,(d4 a).1,(d4 a).2.1,(d6 a).1,(d6 a).2.1,(d8 a).1,(d8 a).2.1,(df a).1,(df a).2.1,(dg a).1,(dg a).2.1,(dh a).1,(dh a).2.1,(P2 a).1,(P2 a).2.1,(d2 (P2 a)).1,(d2 (P2 a)).2.1,(d4 (P2 a)).1,(d4 (P2 a)).2.1,(d6 (P2 a)).1,(d6 (P2 a)).2.1,(d8 (P2 a)).1,(d8 (P2 a)).2.1,(df (P2 a)).1,(df (P2 a)).2,E,G,H,J,K,L,M,b,c,d,e,f,g,h,i,j,k,l,m,n,o,p,q,r,s,t,u,v,w,x,y,z,A,C,D,E,O,P,Q)):=by kernel_rfl
end Go.Proofs.YtnkmbgbpkgmbnaaGreat
