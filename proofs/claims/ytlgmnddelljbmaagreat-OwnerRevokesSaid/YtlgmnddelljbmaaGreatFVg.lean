/- Functions of the program, as what they compute. -/
import Derived.Test.YtlgmnddelljbmaaGreatFVf
namespace Go.Proofs.YtlgmnddelljbmaaGreat
open Go Go.AM
set_option linter.unusedVariables false
set_option maxRecDepth 100000
set_option synthInstance.maxSize 2000
noncomputable instance:DecidableEq Qt12:=by
 unfold Qt12
 repeat' (first | exact (inferInstance:DecidableEq Int) | exact (inferInstance:DecidableEq Bool) | exact (inferInstance:DecidableEq LL) | refine @instDecidableEqProd _ _ ?_ ?_)
noncomputable def F9:Fn:=⟨38,[6],[(3,[(7,.ptr 15 0),(16,.c (.slice 13)),(17,.c (.int .i64)),(18,.c (.int .i64)),(15,.box hs4)])],[],0,[],[],Tryz.f9,[.c (.int .i64),.agg [.int .i64,.int .i64,.bool],.c (.slice 13)],[.box hs4],[(38,F38.S)]⟩
theorem ok9:F9.S.Ok Tryz.prog 9:=F9.ok Tryz.func9 (by kernel_rfl) ⟨ZuA,trivial⟩
noncomputable def g9 (a c d:Int) (e:Bool) (f:LL):Option (Qt13):=F9.S.g [.i a,.i c,.i d,.b e,.l f]
noncomputable def Zpo (k:Nat) (a:LL) (c d e f g:Int) (h:Bool) (j m:LL) (n o p q r s t u v w x y z A C D E G H J:Int) (K:LL) (L M N O P Q:Int) (R:Bool) (T:Int) (U V W:LL):Option (Qt13):=F9.lp [0] 0 r0 k [.l a,.i c,.i d,.i e,.i f,.i g,.b h,.l j,.l m,.i n,.i o,.i p,.i q,.i r,.i s,.i t,.i u,.i v,.i w,.i x,.i y,.i z,.i A,.i C,.i D,.i E,.i G,.i H,.i J,.l K,.i L,.i M,.i N,.i O,.i P,.i Q,.b R,.i T,.l U,.l V,.l W]
theorem Zn4 (k:Nat) (c:LL) (d b e f g:Int) (h:Bool) (i j:LL) (l m n o p q r s t u v w x y z A C D E G:Int) (H:LL) (J K L M N O:Int) (P:Bool) (Q:Int) (R T U:LL):Zpo (k+1) c d b e f g h i j l m n o p q r s t u v w x y z A C D E G H J K L M N O P Q R T U =
 (if (cop .lss b d) then
 Zt c b hs18 fun (a:Qt21)=>
 (g38 i a.1 a.2.1 a.2.2.1 a.2.2.2.1 a.2.2.2.2.1 a.2.2.2.2.2.1 a.2.2.2.2.2.2.1 a.2.2.2.2.2.2.2.1 a.2.2.2.2.2.2.2.2.1 a.2.2.2.2.2.2.2.2.2.1 a.2.2.2.2.2.2.2.2.2.2.1 a.2.2.2.2.2.2.2.2.2.2.2.1 (d4 (d8 a))).bind fun V=>
 if V.2 then
 Zpo k c d (iop .add .i64 b 1) e f g h V.1 j l m n o p q r s t u v w x y z A C D E G H J K L M N O P Q R T U
 else
 Zpo k c d (iop .add .i64 b 1) e f g h i j l m n o p q r s t u v w x y z A C D E G H J K L M N O P Q R T U
 else
 some (e,f,g,h,i,j,l,m,n,o,p,q,r,s,t,u,v,w,x,y,z,A,C,D,E,G,H,J,K,L,M,N,O,P,Q,R,T,U)):=by kernel_rfl
theorem Zse (b c d:Int) (e:Bool) (a:LL):g9 b c d e a =
 (Zpo Jn a (List.length a:Int) 0 b c d e E0 E0 0 0 0 0 0 0 0 0 0 0 0 0 0 0 0 0 0 0 0 0 E0 0 0 0 0 0 0 false 0 E0 E0 E0):=by kernel_rfl
noncomputable def F21:Fn:=⟨8,[2],[],[0],0,[],[(1000000,[(2,0)])],Tryz.f21,[.box hs4],[.c (.own false 40)],[(51,F51.S)]⟩
theorem Zuz:F21.S.Ok Tryz.prog 21:=F21.ok Tryz.func21 (by kernel_rfl) ⟨ZsS,trivial⟩
noncomputable def g21 (a c d:Int) (e:Bool) (f h:LL) (j k m n o p q r s t u v w x y z A C D E:Int) (G:LL) (H J K L M N:Int) (O:Bool) (P:Int) (Q R T:LL):Option (Qt12):=F21.S.g [.i a,.i c,.i d,.b e,.l f,.l h,.i j,.i k,.i m,.i n,.i o,.i p,.i q,.i r,.i s,.i t,.i u,.i v,.i w,.i x,.i y,.i z,.i A,.i C,.i D,.i E,.l G,.i H,.i J,.i K,.i L,.i M,.i N,.b O,.i P,.l Q,.l R,.l T]
theorem ZpZ (b c d:Int) (e:Bool) (a f:LL) (g h i j k l m n o p q r s t u v w x y z:Int) (A:LL) (C D E G H J:Int) (K:Bool) (L:Int) (M O P:LL):g21 b c d e a f g h i j k l m n o p q r s t u v w x y z A C D E G H J K L M O P =
 ((g51 a).bind fun Q=>
 some (Q,b,c,d,e,a,f,g,h,i,j,k,l,m,n,o,p,q,r,s,t,u,v,w,x,y,z,A,C,D,E,G,H,J,K,L,M,O,P)):=by kernel_rfl
end Go.Proofs.YtlgmnddelljbmaaGreat
