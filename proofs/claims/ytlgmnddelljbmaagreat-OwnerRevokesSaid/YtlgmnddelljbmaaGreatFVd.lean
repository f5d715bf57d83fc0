/- Functions of the program, as what they compute. -/
import Derived.Test.YtlgmnddelljbmaaGreatFVc
namespace Go.Proofs.YtlgmnddelljbmaaGreat
open Go Go.AM
set_option linter.unusedVariables false
set_option maxRecDepth 100000
noncomputable def ZoJ:Fn:=⟨61,[2,3],[],[0],0,[],[],Tryz.f159,[.box hs4],[.agg hs19,.c (.bool)],[(84,F84.S)]⟩
theorem Zm2:ZoJ.S.Ok Tryz.prog 159:=ZoJ.ok Tryz.func159 (by kernel_rfl) ⟨Zrd,trivial⟩
noncomputable def Zrx (a c d:Int) (e:Bool) (f h:LL) (j k m n o p q r s t u v w x y z A C D E:Int) (G:LL) (H J K L M N:Int) (O:Bool) (P:Int) (Q R T:LL):Option (Qt8):=ZoJ.S.g [.i a,.i c,.i d,.b e,.l f,.l h,.i j,.i k,.i m,.i n,.i o,.i p,.i q,.i r,.i s,.i t,.i u,.i v,.i w,.i x,.i y,.i z,.i A,.i C,.i D,.i E,.l G,.i H,.i J,.i K,.i L,.i M,.i N,.b O,.i P,.l Q,.l R,.l T]
theorem ZmP (h i j:Int) (k:Bool) (b l:LL) (c m n o d p q r s t u v w x y z A e f g:Int) (C:LL) (D E G H J K:Int) (L:Bool) (M:Int) (N O P:LL):Zrx h i j k b l c m n o d p q r s t u v w x y z A e f g C D E G H J K L M N O P =
 ((g84 b e f g).bind fun Q=>
 if (!Q.2) then
 some (0,0,0,E0,0,0,0,0,0,0,false,false,h,i,j,k,b,l,c,m,n,o,d,p,q,r,s,t,u,v,w,x,y,z,A,e,f,g,C,D,E,G,H,J,K,L,M,N,O,P)
 else
 Zt b Q.1 hs18 fun (R:Qt21)=>
 if (cop .neq R.1 c) then
 some (0,0,0,E0,0,0,0,0,0,0,false,false,h,i,j,k,b,l,c,m,n,o,d,p,q,r,s,t,u,v,w,x,y,z,A,e,f,g,C,D,E,G,H,J,K,L,M,N,O,P)
 else
 Zt b Q.1 hs18 fun (T:Qt21)=>
 if (cop .neq T.2.1 d) then
 some (0,0,0,E0,0,0,0,0,0,0,false,false,h,i,j,k,b,l,c,m,n,o,d,p,q,r,s,t,u,v,w,x,y,z,A,e,f,g,C,D,E,G,H,J,K,L,M,N,O,P)
 else
 Zt b Q.1 hs18 fun (a:Qt21)=>
 some (a.2.2.1,a.2.2.2.1,a.2.2.2.2.1,a.2.2.2.2.2.1,a.2.2.2.2.2.2.1,a.2.2.2.2.2.2.2.1,a.2.2.2.2.2.2.2.2.1,a.2.2.2.2.2.2.2.2.2.1,a.2.2.2.2.2.2.2.2.2.2.1,a.2.2.2.2.2.2.2.2.2.2.2.1,(d4 (d8 a)),true,h,i,j,k,b,l,c,m,n,o,d,p,q,r,s,t,u,v,w,x,y,z,A,e,f,g,C,D,E,G,H,J,K,L,M,N,O,P)):=by kernel_rfl
noncomputable def Zs8:Fn:=⟨11,[4],[],[],0,[],[],Tryz.f204,[.agg hs22,.c (.int .i64)],[.agg hs22],[]⟩
theorem ZsU:Zs8.S.Ok Tryz.prog 204:=Zs8.ok Tryz.func204 (by kernel_rfl) trivial
noncomputable def Zoy:Fn:=⟨9,[4],[],[],0,[],[],Tryz.f206,[.agg hs19,.agg [.int .i64,.int .i64,.int .i64]],[.c (.bool)],[(153,Zpz.S)]⟩
theorem ZnR:Zoy.S.Ok Tryz.prog 206:=Zoy.ok Tryz.func206 (by kernel_rfl) ⟨ZqZ,trivial⟩
noncomputable def Zrs (a c d:Int) (e:LL) (f h j k m n:Int) (o:Bool) (p q r:Int):Option (Bool):=Zoy.S.g [.i a,.i c,.i d,.l e,.i f,.i h,.i j,.i k,.i m,.i n,.b o,.i p,.i q,.i r]
theorem ZnQ (e f g:Int) (a:LL) (h i j k l m:Int) (n:Bool) (b c d:Int):Zrs e f g a h i j k l m n b c d =
 ((Zrz a b c d).bind fun o=>
 some (o)):=by kernel_rfl
noncomputable def Zre:Fn:=⟨48,[6,7],[],[],0,[],[],Tryz.f203,[.agg hs19,.agg [.int .i64,.int .i64,.int .i64],.agg hs22],[.agg hs19,.c (.int .i64)],[(93,F93.S),(150,Zms.S),(152,ZoK.S),(206,Zoy.S),(147,Zqs.S)]⟩
theorem Zpw:Zre.S.Ok Tryz.prog 203:=Zre.ok Tryz.func203 (by kernel_rfl) ⟨ZqT,⟨Zjq,⟨Zoh,⟨ZnR,⟨ZpW,trivial⟩⟩⟩⟩⟩
noncomputable def Zpk:Fn:=⟨57,[4,5],[],[0],0,[],[],Tryz.f157,[.box hs4,.c (.int .i64)],[.c (.own false 40),.c (.int .i64)],[(159,ZoJ.S),(204,Zs8.S),(203,Zre.S)]⟩
theorem ZoR:Zpk.S.Ok Tryz.prog 157:=Zpk.ok Tryz.func157 (by kernel_rfl) ⟨Zm2,⟨ZsU,⟨Zpw,trivial⟩⟩⟩
noncomputable def Zvr (a c d:Int) (e:Bool) (f h:LL) (j k m n o p q r s t u v w x y z A C D E:Int) (G:LL) (H J K L M N:Int) (O:Bool) (P:Int) (Q R T:LL) (U:Int):Option (Qt9):=Zpk.S.g [.i a,.i c,.i d,.b e,.l f,.l h,.i j,.i k,.i m,.i n,.i o,.i p,.i q,.i r,.i s,.i t,.i u,.i v,.i w,.i x,.i y,.i z,.i A,.i C,.i D,.i E,.l G,.i H,.i J,.i K,.i L,.i M,.i N,.b O,.i P,.l Q,.l R,.l T,.i U]
noncomputable def Zrl:Fn:=⟨67,[2],[],[0],0,[46],[],Tryz.f158,[.box hs4],[.c (.own false 65)],[(47,F47.S),(157,Zpk.S),(199,Zrv.S),(103,ZoI.S),(87,F87.S)]⟩
theorem Zs2:Zrl.S.Ok Tryz.prog 158:=Zrl.ok Tryz.func158 (by kernel_rfl) ⟨ZpL,⟨ZoR,⟨Zq3,⟨ZnD,⟨ZpM,trivial⟩⟩⟩⟩⟩
noncomputable def ZvX (a c d:Int) (e:Bool) (f h:LL) (j k m n o p q r s t u v w x y z A C D E:Int) (G:LL) (H J K L M O:Int) (P:Bool) (Q:Int) (R T U:LL):Option (Qt12):=Zrl.S.g [.i a,.i c,.i d,.b e,.l f,.l h,.i j,.i k,.i m,.i n,.i o,.i p,.i q,.i r,.i s,.i t,.i u,.i v,.i w,.i x,.i y,.i z,.i A,.i C,.i D,.i E,.l G,.i H,.i J,.i K,.i L,.i M,.i O,.b P,.i Q,.l R,.l T,.l U]
end Go.Proofs.YtlgmnddelljbmaaGreat
