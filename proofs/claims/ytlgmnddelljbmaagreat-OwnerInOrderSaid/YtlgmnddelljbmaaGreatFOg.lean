/- Functions of the program, as what they compute. -/
import Derived.Test.YtlgmnddelljbmaaGreatFOf
namespace Go.Proofs.YtlgmnddelljbmaaGreat
open Go Go.AM
set_option linter.unusedVariables false
set_option maxRecDepth 100000
set_option synthInstance.maxSize 2000
set_option synthInstance.maxHeartbeats 2000000
noncomputable instance:DecidableEq Qt13:=by
 unfold Qt13
 repeat' (first | exact (inferInstance:DecidableEq Int) | exact (inferInstance:DecidableEq Bool) | exact (inferInstance:DecidableEq LL) | refine @instDecidableEqProd _ _ ?_ ?_)
noncomputable def Zmh:Fn:=⟨8,[2],[],[],1,[2,5,7],[],Tryz.f109,[.ref 8 6,.dead,.dead,.dead,.dead,.dead,.dead,.dead,.gbox hs4],[.c (.own true 46)],[]⟩
theorem ZnP:Zmh.S.Ok Tryz.prog 109:=Zmh.ok Tryz.func109 (by kernel_rfl) trivial
noncomputable def ZmZ (a c d:Int) (e:Bool) (f h:LL) (j k m n o p q r s t u v w x y z A C D E:Int) (G:LL) (H J K L M N:Int) (O:Bool) (P:Int) (Q R T:LL):Option (Qt13):=Zmh.S.g [.i a,.i c,.i d,.b e,.l f,.l h,.i j,.i k,.i m,.i n,.i o,.i p,.i q,.i r,.i s,.i t,.i u,.i v,.i w,.i x,.i y,.i z,.i A,.i C,.i D,.i E,.l G,.i H,.i J,.i K,.i L,.i M,.i N,.b O,.i P,.l Q,.l R,.l T]
theorem ZjV (b c d:Int) (e:Bool) (f a:LL) (g h i j k l m n o p q r s t u v w x y z:Int) (A:LL) (C D E G H J:Int) (K:Bool) (L:Int) (M N O:LL):ZmZ b c d e f a g h i j k l m n o p q r s t u v w x y z A C D E G H J K L M N O =
 (Zfe a fun P=>
 if P then
 some (E0,b,c,d,e,f,a,g,h,i,j,k,l,m,n,o,p,q,r,s,t,u,v,w,x,y,z,A,C,D,E,G,H,J,K,L,M,N,O)
 else
 J6 (K7 E0 a 240)<|
 some ((E0++a),b,c,d,e,f,a,g,h,i,j,k,l,m,n,o,p,q,r,s,t,u,v,w,x,y,z,A,C,D,E,G,H,J,K,L,M,N,O)):=by kernel_rfl
noncomputable def F52:Fn:=⟨22,[2],[(3,[(3,.c (.own true 46)),(8,.c (.int .i64)),(9,.c (.int .i64)),(22,.gbox hs4)])],[],1,[2],[],Tryz.f52,[.ref 22 6,.dead,.dead,.dead,.dead,.dead,.dead,.dead,.dead,.dead,.dead,.dead,.dead,.dead,.dead,.dead,.dead,.dead,.dead,.dead,.dead,.dead,.gbox hs4],[.c (.own true 46)],[(109,Zmh.S),(43,F43.S)]⟩
theorem Zph:F52.S.Ok Tryz.prog 52:=F52.ok Tryz.func52 (by kernel_rfl) ⟨ZnP,⟨Znh,trivial⟩⟩
noncomputable def g52 (a c d:Int) (e:Bool) (f h:LL) (j k m n o p q r s t u v w x y z A C D E:Int) (G:LL) (H J K L M N:Int) (O:Bool) (P:Int) (Q R T:LL):Option (Qt13):=F52.S.g [.i a,.i c,.i d,.b e,.l f,.l h,.i j,.i k,.i m,.i n,.i o,.i p,.i q,.i r,.i s,.i t,.i u,.i v,.i w,.i x,.i y,.i z,.i A,.i C,.i D,.i E,.l G,.i H,.i J,.i K,.i L,.i M,.i N,.b O,.i P,.l Q,.l R,.l T]
noncomputable def ZhE (k:Nat) (a:LL) (c d e f g:Int) (h:Bool) (j m:LL) (n o p q r s t u v w x y z A C D E G H J:Int) (K:LL) (L M N O P Q:Int) (R:Bool) (T:Int) (U V W:LL):Option (Qt13):=F52.lp [2] 0 r0 k [.l a,.i c,.i d,.i e,.i f,.i g,.b h,.l j,.l m,.i n,.i o,.i p,.i q,.i r,.i s,.i t,.i u,.i v,.i w,.i x,.i y,.i z,.i A,.i C,.i D,.i E,.i G,.i H,.i J,.l K,.i L,.i M,.i N,.i O,.i P,.i Q,.b R,.i T,.l U,.l V,.l W]
theorem ZhZ (k:Nat) (d:LL) (e c f g h:Int) (i:Bool) (j l:LL) (m n o p q r s t u v w x y z A C D E G H:Int) (J:LL) (K L M N O P:Int) (Q:Bool) (R:Int) (T U V:LL):ZhE (k+1) d e c f g h i j l m n o p q r s t u v w x y z A C D E G H J K L M N O P Q R T U V =
 (if (cop .lss c e) then
 J6 ((0:Int)≤c)<|
 J6 ((c:Int) < (List.length d:Int))<|
 Z8 d c hs8 fun (a:Qt17)=>
 (g43 a.1 a.2.1 a.2.2.1 a.2.2.2.1 a.2.2.2.2.1 a.2.2.2.2.2.1 a.2.2.2.2.2.2.1 a.2.2.2.2.2.2.2.1 a.2.2.2.2.2.2.2.2.1 a.2.2.2.2.2.2.2.2.2.1 a.2.2.2.2.2.2.2.2.2.2.1 a.2.2.2.2.2.2.2.2.2.2.2.1 (d4 (d8 a)).1 (d4 (d8 a)).2.1 (d2 (d4 (d8 a))).1 (d2 (d4 (d8 a))).2.1 (d16 a).1 (d16 a).2.1 (d2 (d16 a)).1 (d2 (d16 a)).2.1 (d4 (d16 a)).1 (d4 (d16 a)).2.1 (d2 (d4 (d16 a))).1 (d2 (d4 (d16 a))).2.1 (d8 (d16 a)).1 (d8 (d16 a)).2.1 (d2 (d8 (d16 a))).1 (d2 (d8 (d16 a))).2).bind fun b=>
 J6 ((0:Int)≤c)<|
 J6 ((c:Int) < (List.length d:Int))<|
 J6 ((0:Int)≤c)<|
 J6 ((c:Int) < (List.length d:Int))<|
 ZhE k (JE d (Int.toNat c) 0 [AV.val (.int .i64 b.1),AV.val (.int .i64 b.2.1),AV.val (.int .i64 b.2.2.1),AV.val (.int .i64 b.2.2.2.1),AV.val (.int .i64 b.2.2.2.2.1),AV.val (.int .i64 b.2.2.2.2.2.1),AV.val (.int .i64 b.2.2.2.2.2.2.1),AV.val (.int .i64 b.2.2.2.2.2.2.2.1),AV.val (.int .i64 b.2.2.2.2.2.2.2.2.1),AV.val (.int .i64 b.2.2.2.2.2.2.2.2.2.1),AV.val (.int .i64 b.2.2.2.2.2.2.2.2.2.2.1),AV.val (.int .i64 b.2.2.2.2.2.2.2.2.2.2.2.1),AV.val (.int .i64 (d4 (d8 b)).1),AV.val (.int .i64 (d4 (d8 b)).2.1),AV.val (.int .i64 (d2 (d4 (d8 b))).1),AV.val (.int .i64 (d2 (d4 (d8 b))).2.1),AV.val (.int .i64 (d16 b).1),AV.val (.int .i64 (d16 b).2.1),AV.val (.int .i64 (d2 (d16 b)).1),AV.val (.int .i64 (d2 (d16 b)).2.1),AV.slice false 3 (d4 (d16 b)).1,AV.val (.int .i64 (d4 (d16 b)).2.1),AV.val (.int .i64 (d2 (d4 (d16 b))).1),AV.val (.int .i64 (d2 (d4 (d16 b))).2.1),AV.val (.int .i64 (d8 (d16 b)).1),AV.val (.int .i64 (d8 (d16 b)).2.1),AV.val (.int .i64 (d2 (d8 (d16 b))).1),AV.val (.bool (d2 (d8 (d16 b))).2)]) e (iop .add .i64 c 1) f g h i j l m n o p q r s t u v w x y z A C D E G H J K L M N O P Q R T U V
 else
 some (d,f,g,h,i,j,l,m,n,o,p,q,r,s,t,u,v,w,x,y,z,A,C,D,E,G,H,J,K,L,M,N,O,P,Q,R,T,U,V)):=by kernel_rfl
theorem ZkT (b c d:Int) (e:Bool) (f g:LL) (h i j k l m n o p q r s t u v w x y z A:Int) (C:LL) (D E G H J K:Int) (L:Bool) (M:Int) (N O P:LL):g52 b c d e f g h i j k l m n o p q r s t u v w x y z A C D E G H J K L M N O P =
 ((ZmZ b c d e f g h i j k l m n o p q r s t u v w x y z A C D E G H J K L M N O P).bind fun a=>
 ZhE KX a.1 (List.length a.1:Int) 0 a.2.1 a.2.2.1 a.2.2.2.1 a.2.2.2.2.1 a.2.2.2.2.2.1 a.2.2.2.2.2.2.1 a.2.2.2.2.2.2.2.1 a.2.2.2.2.2.2.2.2.1 a.2.2.2.2.2.2.2.2.2.1 a.2.2.2.2.2.2.2.2.2.2.1 a.2.2.2.2.2.2.2.2.2.2.2.1 (d4 (d8 a)).1 (d4 (d8 a)).2.1 (d2 (d4 (d8 a))).1 (d2 (d4 (d8 a))).2.1 (d16 a).1 (d16 a).2.1 (d2 (d16 a)).1 (d2 (d16 a)).2.1 (d4 (d16 a)).1 (d4 (d16 a)).2.1 (d2 (d4 (d16 a))).1 (d2 (d4 (d16 a))).2.1 (d8 (d16 a)).1 (d8 (d16 a)).2.1 (d2 (d8 (d16 a))).1 (d2 (d8 (d16 a))).2.1 (d4 (d8 (d16 a))).1 (d4 (d8 (d16 a))).2.1 (d2 (d4 (d8 (d16 a)))).1 (d2 (d4 (d8 (d16 a)))).2.1 (d16 (d16 a)).1 (d16 (d16 a)).2.1 (d2 (d16 (d16 a))).1 (d2 (d16 (d16 a))).2.1 (d4 (d16 (d16 a))).1 (d4 (d16 (d16 a))).2.1 (d2 (d4 (d16 (d16 a))))):=by kernel_rfl
noncomputable def F23:Fn:=⟨8,[2],[],[0],0,[],[],Tryz.f23,[.box hs4],[.c (.own true 46)],[(52,F52.S)]⟩
theorem Zo7:F23.S.Ok Tryz.prog 23:=F23.ok Tryz.func23 (by kernel_rfl) ⟨Zph,trivial⟩
noncomputable def g23 (a c d:Int) (e:Bool) (f h:LL) (j k m n o p q r s t u v w x y z A C D E:Int) (G:LL) (H J K L M N:Int) (O:Bool) (P:Int) (Q R T:LL):Option (Qt13):=F23.S.g [.i a,.i c,.i d,.b e,.l f,.l h,.i j,.i k,.i m,.i n,.i o,.i p,.i q,.i r,.i s,.i t,.i u,.i v,.i w,.i x,.i y,.i z,.i A,.i C,.i D,.i E,.l G,.i H,.i J,.i K,.i L,.i M,.i N,.b O,.i P,.l Q,.l R,.l T]
theorem Zk1 (b c d:Int) (e:Bool) (f g:LL) (h i j k l m n o p q r s t u v w x y z A:Int) (C:LL) (D E G H J K:Int) (L:Bool) (M:Int) (N O P:LL):g23 b c d e f g h i j k l m n o p q r s t u v w x y z A C D E G H J K L M N O P =
 ((g52 b c d e f g h i j k l m n o p q r s t u v w x y z A C D E G H J K L M N O P).bind fun a=>
 some (a.1,a.2.1,a.2.2.1,a.2.2.2.1,a.2.2.2.2.1,a.2.2.2.2.2.1,a.2.2.2.2.2.2.1,a.2.2.2.2.2.2.2.1,a.2.2.2.2.2.2.2.2.1,a.2.2.2.2.2.2.2.2.2.1,a.2.2.2.2.2.2.2.2.2.2.1,a.2.2.2.2.2.2.2.2.2.2.2.1,(d4 (d8 a)).1,(d4 (d8 a)).2.1,(d2 (d4 (d8 a))).1,(d2 (d4 (d8 a))).2.1,(d16 a).1,(d16 a).2.1,(d2 (d16 a)).1,(d2 (d16 a)).2.1,(d4 (d16 a)).1,(d4 (d16 a)).2.1,(d2 (d4 (d16 a))).1,(d2 (d4 (d16 a))).2.1,(d8 (d16 a)).1,(d8 (d16 a)).2.1,(d2 (d8 (d16 a))).1,(d2 (d8 (d16 a))).2.1,(d4 (d8 (d16 a))).1,(d4 (d8 (d16 a))).2.1,(d2 (d4 (d8 (d16 a)))).1,(d2 (d4 (d8 (d16 a)))).2.1,(d16 (d16 a)).1,(d16 (d16 a)).2.1,(d2 (d16 (d16 a))).1,(d2 (d16 (d16 a))).2.1,(d4 (d16 (d16 a))).1,(d4 (d16 (d16 a))).2.1,(d2 (d4 (d16 (d16 a)))))):=by kernel_rfl
noncomputable def F24:Fn:=⟨13,[2,3],[],[0],0,[],[],Tryz.f24,[.box hs4],[.agg hs8,.c (.int .i64)],[(43,F43.S)]⟩
theorem Zpj:F24.S.Ok Tryz.prog 24:=F24.ok Tryz.func24 (by kernel_rfl) ⟨Znh,trivial⟩
noncomputable def g24 (a c d:Int) (e:Bool) (f h:LL) (j k m n o p q r s t u v w x y z A C D E:Int) (G:LL) (H J K L M N:Int) (O:Bool) (P:Int) (Q R T:LL):Option (Qt7):=F24.S.g [.i a,.i c,.i d,.b e,.l f,.l h,.i j,.i k,.i m,.i n,.i o,.i p,.i q,.i r,.i s,.i t,.i u,.i v,.i w,.i x,.i y,.i z,.i A,.i C,.i D,.i E,.l G,.i H,.i J,.i K,.i L,.i M,.i N,.b O,.i P,.l Q,.l R,.l T]
theorem Zlv (G H J:Int) (K:Bool) (L M:LL) (b c d e f g h i j k l m n o p q r s t u:Int) (v:LL) (w x y z A C:Int) (D:Bool) (E:Int) (N O P:LL):g24 G H J K L M b c d e f g h i j k l m n o p q r s t u v w x y z A C D E N O P =
 ((g43 b c d e f g h i j k l m n o p q r s t u v w x y z A C D).bind fun a=>
 some (a.1,a.2.1,a.2.2.1,a.2.2.2.1,a.2.2.2.2.1,a.2.2.2.2.2.1,a.2.2.2.2.2.2.1,a.2.2.2.2.2.2.2.1,a.2.2.2.2.2.2.2.2.1,a.2.2.2.2.2.2.2.2.2.1,a.2.2.2.2.2.2.2.2.2.2.1,a.2.2.2.2.2.2.2.2.2.2.2.1,(d4 (d8 a)).1,(d4 (d8 a)).2.1,(d2 (d4 (d8 a))).1,(d2 (d4 (d8 a))).2.1,(d16 a).1,(d16 a).2.1,(d2 (d16 a)).1,(d2 (d16 a)).2.1,(d4 (d16 a)).1,(d4 (d16 a)).2.1,(d2 (d4 (d16 a))).1,(d2 (d4 (d16 a))).2.1,(d8 (d16 a)).1,(d8 (d16 a)).2.1,(d2 (d8 (d16 a))).1,(d2 (d8 (d16 a))).2,E,G,H,J,K,L,M,b,c,d,e,f,g,h,i,j,k,l,m,n,o,p,q,r,s,t,u,v,w,x,y,z,A,C,D,E,N,O,P)):=by kernel_rfl
noncomputable def F9:Fn:=⟨38,[6],[(3,[(7,.ptr 15 0),(16,.c (.slice 13)),(17,.c (.int .i64)),(18,.c (.int .i64)),(15,.box hs4)])],[],0,[],[],Tryz.f9,[.c (.int .i64),.agg [.int .i64,.int .i64,.bool],.c (.slice 13)],[.box hs4],[(38,F38.S)]⟩
theorem ok9:F9.S.Ok Tryz.prog 9:=F9.ok Tryz.func9 (by kernel_rfl) ⟨ZoG,trivial⟩
noncomputable def g9 (a c d:Int) (e:Bool) (f:LL):Option (Qt14):=F9.S.g [.i a,.i c,.i d,.b e,.l f]
noncomputable def F21:Fn:=⟨8,[2],[],[0],0,[],[],Tryz.f21,[.box hs4],[.c (.own true 40)],[(51,F51.S)]⟩
theorem Zpa:F21.S.Ok Tryz.prog 21:=F21.ok Tryz.func21 (by kernel_rfl) ⟨Znb,trivial⟩
end Go.Proofs.YtlgmnddelljbmaaGreat
