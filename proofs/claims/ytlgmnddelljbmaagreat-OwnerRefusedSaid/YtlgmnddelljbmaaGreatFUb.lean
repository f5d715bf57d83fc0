/- Functions of the program, as what they compute. -/
import Derived.Test.YtlgmnddelljbmaaGreatFUa
namespace Go.Proofs.YtlgmnddelljbmaaGreat
open Go Go.AM
set_option linter.unusedVariables false
set_option maxRecDepth 100000
noncomputable def F84:Fn:=⟨22,[4,5],[(2,[(3,.box [.int .i64,.int .i64,.int .i64]),(8,.c (.slice 13)),(9,.c (.int .i64)),(10,.c (.int .i64))])],[],0,[],[],Tryz.f84,[.c (.slice 13),.agg [.int .i64,.int .i64,.int .i64]],[.c (.int .i64),.c (.bool)],[]⟩
theorem Zow:F84.S.Ok Tryz.prog 84:=F84.ok Tryz.func84 (by kernel_rfl) trivial
noncomputable def g84 (a:LL) (b c d:Int):Option (Int×Bool):=F84.S.g [.l a,.i b,.i c,.i d]
noncomputable def Zj2 (k:Nat) (a b c:Int) (d:LL) (e f:Int):Option (Int×Bool):=F84.lp [0] 0 r0 k [.i a,.i b,.i c,.l d,.i e,.i f]
theorem ZjH (k:Nat) (b c d:Int) (e:LL) (f a:Int):Zj2 (k+1) b c d e f a =
 (if (cop .lss a f) then
 Zu e a hs18 fun (g:Qt21)=>
 if ((cop .eql g.2.2.1 b)&&((cop .eql g.2.2.2.1 c)&&((cop .eql g.2.2.2.2.1 d)&&true))) then
 some (a,true)
 else
 Zj2 k b c d e f (iop .add .i64 a 1)
 else
 some (0,false)):=by kernel_rfl
theorem ZmP (a:LL) (b c d:Int):g84 a b c d =
 (Zj2 JD b c d a (List.length a:Int) 0):=by kernel_rfl
noncomputable def F85:Fn:=⟨29,[6,7],[(2,[(1,.c (.int .i64)),(2,.c (.int .i64)),(10,.c (.slice 13)),(11,.c (.int .i64)),(12,.c (.int .i64))])],[],0,[],[],Tryz.f85,[.c (.slice 13),.c (.int .i64),.c (.int .i64)],[.c (.int .i64),.c (.bool)],[]⟩
theorem Zs0:F85.S.Ok Tryz.prog 85:=F85.ok Tryz.func85 (by kernel_rfl) trivial
noncomputable def g85 (a:LL) (b c:Int):Option (Int×Bool):=F85.S.g [.l a,.i b,.i c]
noncomputable def Zgd (k:Nat) (a b:Int) (c:LL) (d e:Int):Option (Int×Bool):=F85.lp [0] 0 r0 k [.i a,.i b,.l c,.i d,.i e]
theorem ZjV (k:Nat) (b c:Int) (d:LL) (e a:Int):Zgd (k+1) b c d e a =
 (if (cop .lss a e) then
 Zu d a hs18 fun (f:Qt21)=>
 if (cop .eql f.1 b) then
 if (cop .eql f.2.1 c) then
 some (a,true)
 else
 Zgd k b c d e (iop .add .i64 a 1)
 else
 Zgd k b c d e (iop .add .i64 a 1)
 else
 some (0,false)):=by kernel_rfl
theorem Zns (a:LL) (b c:Int):g85 a b c =
 (Zgd JD b c a (List.length a:Int) 0):=by kernel_rfl
noncomputable def Zn0:Fn:=⟨6,[2],[],[],0,[],[],Tryz.f221,[.c (.int .i64)],[.c (.bool)],[]⟩
theorem Znv:Zn0.S.Ok Tryz.prog 221:=Zn0.ok Tryz.func221 (by kernel_rfl) trivial
noncomputable def ZoH (a:Int):Option (Bool):=Zn0.S.g [.i a]
theorem Zlx (a:Int):ZoH a =
 (some ((cop .neq a a))):=by kernel_rfl
noncomputable def ZoO:Fn:=⟨20,[4],[],[],0,[],[],Tryz.f192,[.c (.int .i64),.c (.int .i64)],[.c (.int .i64)],[(221,Zn0.S)]⟩
theorem Zra:ZoO.S.Ok Tryz.prog 192:=ZoO.ok Tryz.func192 (by kernel_rfl) ⟨Znv,trivial⟩
noncomputable def Zmv (a b:Int):Option (Int):=ZoO.S.g [.i a,.i b]
theorem ZkB (a b:Int):Zmv a b =
 ((ZoH a).bind fun d=>
 (ZoH b).bind fun c=>
 if d then
 if c then
 some (0)
 else
 some ((-1))
 else
 if c then
 some (1)
 else
 if (cop .lss a b) then
 some ((-1))
 else
 if (cop .gtr a b) then
 some (1)
 else
 some (0)):=by kernel_rfl
noncomputable def Zmo:Fn:=⟨18,[2],[(3,[(3,.c (.int .i64)),(6,.c (.slice 1)),(7,.c (.int .i64)),(8,.c (.int .i64))])],[],0,[],[],Tryz.f191,[.c (.slice 1)],[.c (.int .i64)],[]⟩
theorem ZqE:Zmo.S.Ok Tryz.prog 191:=Zmo.ok Tryz.func191 (by kernel_rfl) trivial
noncomputable def ZqA (a:LL):Option (Int):=Zmo.S.g [.l a]
noncomputable def Zhj (k:Nat) (a:Int) (b:LL) (c d:Int):Option (Int):=Zmo.lp [0] 0 r0 k [.i a,.l b,.i c,.i d]
theorem Vr (k:Nat) (a:Int) (c:LL) (d b:Int):Zhj (k+1) a c d b =
 (if (cop .lss b d) then
 Zu c b [.int .i64] fun (e:Int)=>
 if (cop .neq e a) then
 some (e)
 else
 Zhj k a c d (iop .add .i64 b 1)
 else
 some (a)):=by kernel_rfl
theorem Zlf (a:LL):ZqA a =
 (Zhj JD 0 a (List.length a:Int) 0):=by kernel_rfl
noncomputable def Zo2:Fn:=⟨22,[4],[],[],0,[],[],Tryz.f146,[.agg [.int .i64,.int .i64,.int .i64],.agg [.int .i64,.int .i64,.int .i64]],[.c (.int .i64)],[(192,ZoO.S),(191,Zmo.S)]⟩
theorem Zrw:Zo2.S.Ok Tryz.prog 146:=Zo2.ok Tryz.func146 (by kernel_rfl) ⟨Zra,⟨ZqE,trivial⟩⟩
noncomputable def ZqH (a b c d e f:Int):Option (Int):=Zo2.S.g [.i a,.i b,.i c,.i d,.i e,.i f]
theorem Zkz (a b c d e f:Int):ZqH a b c d e f =
 ((Zmv a d).bind fun g=>
 (Zmv b e).bind fun h=>
 (Zmv c f).bind fun i=>
 (ZqA (((E0++[[AV.val (.int .i64 g)]])++[[AV.val (.int .i64 h)]])++[[AV.val (.int .i64 i)]])).bind fun j=>
 some (j)):=by kernel_rfl
noncomputable def F86:Fn:=⟨9,[4],[],[],0,[],[],Tryz.f86,[.agg [.int .i64,.int .i64,.int .i64],.agg [.int .i64,.int .i64,.int .i64]],[.c (.bool)],[(146,Zo2.S)]⟩
theorem Zrt:F86.S.Ok Tryz.prog 86:=F86.ok Tryz.func86 (by kernel_rfl) ⟨Zrw,trivial⟩
noncomputable def g86 (a b c d e f:Int):Option (Bool):=F86.S.g [.i a,.i b,.i c,.i d,.i e,.i f]
theorem Zmp (a b c d e f:Int):g86 a b c d e f =
 ((ZqH a b c d e f).bind fun g=>
 some ((cop .lss g 0))):=by kernel_rfl
noncomputable def Zpd:Fn:=⟨8,[2],[],[],0,[2,5,7],[],Tryz.f108,[.c (.slice 13)],[.c (.own true 40)],[]⟩
theorem Zpm:Zpd.S.Ok Tryz.prog 108:=Zpd.ok Tryz.func108 (by kernel_rfl) trivial
noncomputable def ZpZ (a:LL):Option (LL):=Zpd.S.g [.l a]
theorem Zlu (a:LL):ZpZ a =
 (ZiR a fun b=>
 if b then
 some (E0)
 else
 ZV (Yt E0 a 120)<|
 some ((E0++a))):=by kernel_rfl
noncomputable def ZnD:Fn:=⟨8,[2],[],[],0,[],[],Tryz.f147,[.c (.slice 3)],[.c (.own false 33)],[]⟩
theorem ZnZ:ZnD.S.Ok Tryz.prog 147:=ZnD.ok Tryz.func147 (by kernel_rfl) trivial
noncomputable def ZoA (a:LL):Option (LL):=ZnD.S.g [.l a]
theorem ZlS (a:LL):ZoA a =
 (ZiR a fun b=>
 if b then
 some (E0)
 else
 ZV (Yt E0 a 24)<|
 some ((E0++a))):=by kernel_rfl
noncomputable def F87:Fn:=⟨8,[2],[],[],0,[],[],Tryz.f87,[.agg hs19],[.agg hs19],[(147,ZnD.S)]⟩
theorem Znh:F87.S.Ok Tryz.prog 87:=F87.ok Tryz.func87 (by kernel_rfl) ⟨ZnZ,trivial⟩
noncomputable def g87 (a c d:Int) (e:LL) (f h j k m n:Int) (o:Bool):Option (Qt24):=F87.S.g [.i a,.i c,.i d,.l e,.i f,.i h,.i j,.i k,.i m,.i n,.b o]
theorem ZmI (a b c:Int) (d:LL) (e f g h i j:Int) (k:Bool):g87 a b c d e f g h i j k =
 ((ZoA d).bind fun l=>
 some (a,b,c,l,e,f,g,h,i,j,k)):=by kernel_rfl
noncomputable def F51:Fn:=⟨24,[2],[(3,[(3,.c (.own true 40)),(8,.c (.int .i64)),(9,.c (.int .i64))])],[],0,[2],[],Tryz.f51,[.c (.slice 13)],[.c (.own true 40)],[(108,Zpd.S),(87,F87.S)]⟩
theorem Zq1:F51.S.Ok Tryz.prog 51:=F51.ok Tryz.func51 (by kernel_rfl) ⟨Zpm,⟨Znh,trivial⟩⟩
noncomputable def g51 (a:LL):Option (LL):=F51.S.g [.l a]
noncomputable def Zjt (k:Nat) (a:LL) (b c:Int):Option (LL):=F51.lp [2] 0 r0 k [.l a,.i b,.i c]
theorem Zjo (k:Nat) (d:LL) (e a:Int):Zjt (k+1) d e a =
 (if (cop .lss a e) then
 ZV ((0:Int)≤a)<|
 ZV ((a:Int) < (List.length d:Int))<|
 Zu d a hs18 fun (b:Qt21)=>
 (g87 b.2.2.1 b.2.2.2.1 b.2.2.2.2.1 b.2.2.2.2.2.1 b.2.2.2.2.2.2.1 b.2.2.2.2.2.2.2.1 b.2.2.2.2.2.2.2.2.1 b.2.2.2.2.2.2.2.2.2.1 b.2.2.2.2.2.2.2.2.2.2.1 b.2.2.2.2.2.2.2.2.2.2.2.1 (d4 (d8 b))).bind fun c=>
 ZV ((0:Int)≤a)<|
 ZV ((a:Int) < (List.length d:Int))<|
 ZV ((0:Int)≤a)<|
 ZV ((a:Int) < (List.length d:Int))<|
 Zjt k (J0 d (Int.toNat a) 2 [AV.val (.int .i64 c.1),AV.val (.int .i64 c.2.1),AV.val (.int .i64 c.2.2.1),AV.slice false 3 c.2.2.2.1,AV.val (.int .i64 c.2.2.2.2.1),AV.val (.int .i64 c.2.2.2.2.2.1),AV.val (.int .i64 c.2.2.2.2.2.2.1),AV.val (.int .i64 c.2.2.2.2.2.2.2.1),AV.val (.int .i64 c.2.2.2.2.2.2.2.2.1),AV.val (.int .i64 c.2.2.2.2.2.2.2.2.2.1),AV.val (.bool c.2.2.2.2.2.2.2.2.2.2)]) e (iop .add .i64 a 1)
 else
 some (d)):=by kernel_rfl
theorem Zmr (a:LL):g51 a =
 ((ZpZ a).bind fun b=>
 Zjt JD b (List.length b:Int) 0):=by kernel_rfl
noncomputable def F88.S:Fun:=ZrO false 40 120
theorem ZsQ:F88.S.Ok Tryz.prog 88:=insF_ok (T:=23) (B:=4) (I:=3) (e:=40) (fO:=148) (fR:=149) mixed (by kernel_rfl) Tryz.func88 (by kernel_rfl) ⟨by kernel_rfl,by kernel_rfl,by kernel_rfl⟩ Tryz.func148 (by kernel_rfl) (by kernel_rfl) (by kernel_rfl) (by kernel_rfl)
noncomputable def g88 (a:LL) (b:Int) (c:LL):Option LL:=F88.S.g [.l a,.i b,.l c]
theorem ZmC (a:LL) (b:Int) (c:LL):g88 a b c=ZpX 120 a b c:=rfl
noncomputable def F38:Fn:=⟨64,[4,5],[(7,[(0,.c (.slice 13)),(3,.box hs18),(10,.c (.int .i64)),(37,.c (.slice 13)),(38,.c (.int .i64)),(39,.c (.int .i64))])],[],0,[],[],Tryz.f38,[.c (.slice 13),.agg hs18],[.c (.slice 13),.c (.bool)],[(84,F84.S),(85,F85.S),(86,F86.S),(51,F51.S),(87,F87.S),(88,F88.S)]⟩
theorem ZrI:F38.S.Ok Tryz.prog 38:=F38.ok Tryz.func38 (by kernel_rfl) ⟨Zow,⟨Zs0,⟨Zrt,⟨Zq1,⟨Znh,⟨ZsQ,trivial⟩⟩⟩⟩⟩⟩
noncomputable def g38 (a:LL) (c d e f h:Int) (j:LL) (k m n o p q:Int) (r:Bool):Option (LL×Bool):=F38.S.g [.l a,.i c,.i d,.i e,.i f,.i h,.l j,.i k,.i m,.i n,.i o,.i p,.i q,.b r]
noncomputable def ZjC (k:Nat) (a:LL) (c d e f g:Int) (h:LL) (j m n o p q:Int) (r:Bool) (s:Int) (t:LL) (u v:Int):Option (LL×Bool):=F38.lp [2,1,1,0] 0 r0 k [.l a,.i c,.i d,.i e,.i f,.i g,.l h,.i j,.i m,.i n,.i o,.i p,.i q,.b r,.i s,.l t,.i u,.i v]
theorem Zji (k:Nat) (h:LL) (i j c d e:Int) (l:LL) (m n o p q r:Int) (s:Bool) (t:Int) (u:LL) (v f:Int):ZjC (k+1) h i j c d e l m n o p q r s t u v f =
 (if (cop .lss f v) then
 Zu u f hs18 fun (g:Qt21)=>
 (g86 c d e g.2.2.1 g.2.2.2.1 g.2.2.2.2.1).bind fun w=>
 if w then
 (g51 h).bind fun x=>
 (g87 c d e l m n o p q r s).bind fun a=>
 (g88 x f (E0++[[AV.val (.int .i64 i),AV.val (.int .i64 j),AV.val (.int .i64 a.1),AV.val (.int .i64 a.2.1),AV.val (.int .i64 a.2.2.1),AV.slice false 3 a.2.2.2.1,AV.val (.int .i64 a.2.2.2.2.1),AV.val (.int .i64 a.2.2.2.2.2.1),AV.val (.int .i64 a.2.2.2.2.2.2.1),AV.val (.int .i64 a.2.2.2.2.2.2.2.1),AV.val (.int .i64 a.2.2.2.2.2.2.2.2.1),AV.val (.int .i64 a.2.2.2.2.2.2.2.2.2.1),AV.val (.bool a.2.2.2.2.2.2.2.2.2.2)]])).bind fun y=>
 some (y,true)
 else
 ZjC k h i j c d e l m n o p q r s t u v (iop .add .i64 f 1)
 else
 (g51 h).bind fun g=>
 (g87 c d e l m n o p q r s).bind fun b=>
 (g88 g t (E0++[[AV.val (.int .i64 i),AV.val (.int .i64 j),AV.val (.int .i64 b.1),AV.val (.int .i64 b.2.1),AV.val (.int .i64 b.2.2.1),AV.slice false 3 b.2.2.2.1,AV.val (.int .i64 b.2.2.2.2.1),AV.val (.int .i64 b.2.2.2.2.2.1),AV.val (.int .i64 b.2.2.2.2.2.2.1),AV.val (.int .i64 b.2.2.2.2.2.2.2.1),AV.val (.int .i64 b.2.2.2.2.2.2.2.2.1),AV.val (.int .i64 b.2.2.2.2.2.2.2.2.2.1),AV.val (.bool b.2.2.2.2.2.2.2.2.2.2)]])).bind fun z=>
 some (z,true)):=by kernel_rfl
theorem ZmM (a:LL) (b c d e f:Int) (g:LL) (h i j k l m:Int) (n:Bool):g38 a b c d e f g h i j k l m n =
 ((g84 a d e f).bind fun o=>
 (g85 a b c).bind fun p=>
 if o.2 then
 some (E0,false)
 else
 if p.2 then
 some (E0,false)
 else
 ZjC JD a b c d e f g h i j k l m n (List.length a:Int) a (List.length a:Int) 0):=by kernel_rfl
noncomputable def ZoU:Fn:=⟨12,[2],[],[],0,[],[],Tryz.f225,[.agg [.int .i64,.int .i64]],[.c (.int .i64)],[(195,Zkg.S)]⟩
theorem ZnK:ZoU.S.Ok Tryz.prog 225:=ZoU.ok Tryz.func225 (by kernel_rfl) ⟨Zhm,trivial⟩
noncomputable def ZoD:Fn:=⟨25,[4],[],[],0,[],[],Tryz.f200,[.agg [.int .i64,.int .i64],.agg [.int .i64,.int .i64]],[.c (.bool)],[(195,Zkg.S),(225,ZoU.S)]⟩
theorem Zn1:ZoD.S.Ok Tryz.prog 200:=ZoD.ok Tryz.func200 (by kernel_rfl) ⟨Zhm,⟨ZnK,trivial⟩⟩
noncomputable def Zqz:Fn:=⟨25,[4],[],[],0,[],[],Tryz.f226,[.agg [.int .i64,.int .i64],.agg [.int .i64,.int .i64]],[.c (.bool)],[(195,Zkg.S),(225,ZoU.S)]⟩
theorem ZqQ:Zqz.S.Ok Tryz.prog 226:=Zqz.ok Tryz.func226 (by kernel_rfl) ⟨Zhm,⟨ZnK,trivial⟩⟩
noncomputable def ZoF:Fn:=⟨61,[6],[(3,[(0,.c (.slice 13)),(2,.c (.slice 7)),(7,.c (.int .i64)),(8,.c (.bool)),(20,.c (.slice 13)),(21,.c (.int .i64)),(22,.c (.int .i64))]),(8,[(0,.c (.slice 13)),(2,.c (.slice 7)),(7,.c (.int .i64)),(8,.c (.bool)),(11,.box [.int .i64,.int .i64]),(20,.c (.slice 13)),(21,.c (.int .i64)),(22,.c (.int .i64)),(49,.c (.slice 7)),(50,.c (.int .i64)),(51,.c (.int .i64))])],[],0,[],[],Tryz.f201,[.c (.slice 13),.agg [.int .i64,.int .i64,.int .i64],.c (.slice 7)],[.c (.bool)],[(84,F84.S),(196,Znw.S),(200,ZoD.S),(226,Zqz.S)]⟩
theorem ZnO:ZoF.S.Ok Tryz.prog 201:=ZoF.ok Tryz.func201 (by kernel_rfl) ⟨Zow,⟨Zor,⟨Zn1,⟨ZqQ,trivial⟩⟩⟩⟩
noncomputable def Zmi:Fn:=⟨34,[4],[(3,[(0,.box hs4),(5,.c (.slice 13)),(14,.c (.slice 13)),(15,.c (.int .i64)),(16,.c (.int .i64))])],[0],0,[],[],Tryz.f199,[.box hs4,.c (.slice 13)],[.c (.bool)],[(38,F38.S)]⟩
theorem Zm2:Zmi.S.Ok Tryz.prog 199:=Zmi.ok Tryz.func199 (by kernel_rfl) ⟨ZrI,trivial⟩
noncomputable def ZoG (a c d:Int) (e:Bool) (f h:LL) (j k m n o p q r s t u v w x y z A C D E:Int) (G:LL) (H J K L M N:Int) (O:Bool) (P:Int) (Q R T U:LL):Option (Qt11):=Zmi.S.g [.i a,.i c,.i d,.b e,.l f,.l h,.i j,.i k,.i m,.i n,.i o,.i p,.i q,.i r,.i s,.i t,.i u,.i v,.i w,.i x,.i y,.i z,.i A,.i C,.i D,.i E,.l G,.i H,.i J,.i K,.i L,.i M,.i N,.b O,.i P,.l Q,.l R,.l T,.l U]
noncomputable def Zfp (k:Nat) (a c d:Int) (e:Bool) (f g:LL) (h j m n o p q r s t u v w x y z A C D E:Int) (G:LL) (H J K L M N:Int) (O:Bool) (P:Int) (Q R T U V:LL) (W X:Int):Option (Qt11):=Zmi.lp [0] 0 r0 k [.i a,.i c,.i d,.b e,.l f,.l g,.i h,.i j,.i m,.i n,.i o,.i p,.i q,.i r,.i s,.i t,.i u,.i v,.i w,.i x,.i y,.i z,.i A,.i C,.i D,.i E,.l G,.i H,.i J,.i K,.i L,.i M,.i N,.b O,.i P,.l Q,.l R,.l T,.l U,.l V,.i W,.i X]
theorem Zg5 (k:Nat) (b c d:Int) (e:Bool) (R f:LL) (g h i j l m n o p q r s t u v w x y z A:Int) (C:LL) (D E G H J K:Int) (L:Bool) (M:Int) (N O P T U:LL) (V Q:Int):Zfp (k+1) b c d e R f g h i j l m n o p q r s t u v w x y z A C D E G H J K L M N O P T U V Q =
 (if (cop .lss Q V) then
 Zu U Q hs18 fun (a:Qt21)=>
 (g38 T a.1 a.2.1 a.2.2.1 a.2.2.2.1 a.2.2.2.2.1 a.2.2.2.2.2.1 a.2.2.2.2.2.2.1 a.2.2.2.2.2.2.2.1 a.2.2.2.2.2.2.2.2.1 a.2.2.2.2.2.2.2.2.2.1 a.2.2.2.2.2.2.2.2.2.2.1 a.2.2.2.2.2.2.2.2.2.2.2.1 (d4 (d8 a))).bind fun W=>
 if (!W.2) then
 some (false,b,c,d,e,R,f,g,h,i,j,l,m,n,o,p,q,r,s,t,u,v,w,x,y,z,A,C,D,E,G,H,J,K,L,M,N,O,P)
 else
 Zfp k b c d e R f g h i j l m n o p q r s t u v w x y z A C D E G H J K L M N O P W.1 U V (iop .add .i64 Q 1)
 else
 some (true,b,c,d,e,T,f,g,h,i,j,l,m,n,o,p,q,r,s,t,u,v,w,x,y,z,A,C,D,E,G,H,J,K,L,M,N,O,P)):=by kernel_rfl
theorem ZlU (c d e:Int) (f:Bool) (a g:LL) (h i j k l m n o p q r s t u v w x y z A:Int) (C:LL) (D E G H J K:Int) (L:Bool) (M:Int) (N O P b:LL):ZoG c d e f a g h i j k l m n o p q r s t u v w x y z A C D E G H J K L M N O P b =
 (Zfp JD c d e f a g h i j k l m n o p q r s t u v w x y z A C D E G H J K L M N O P a b (List.length b:Int) 0):=by kernel_rfl
noncomputable def F102.S:Fun:=ZoB false 40
theorem Zry:F102.S.Ok Tryz.prog 102:=delF_ok (T:=23) (B:=4) (I:=3) (U:=0) (e:=40) (bytes:=120) mixed (by kernel_rfl) Tryz.func102 (by kernel_rfl) ⟨by kernel_rfl,by kernel_rfl,by kernel_rfl⟩
noncomputable def Zqg (a:LL) (b c:Int):Option LL:=F102.S.g [.l a,.i b,.i c]
theorem Zkt (a:LL) (b c:Int):Zqg a b c=ZnY a b c:=rfl
noncomputable def F46:Fn:=⟨22,[4,5],[],[],0,[],[],Tryz.f46,[.c (.slice 13),.agg [.int .i64,.int .i64,.int .i64]],[.c (.slice 13),.c (.bool)],[(84,F84.S),(51,F51.S),(102,F102.S)]⟩
theorem Zr2:F46.S.Ok Tryz.prog 46:=F46.ok Tryz.func46 (by kernel_rfl) ⟨Zow,⟨Zq1,⟨Zry,trivial⟩⟩⟩
noncomputable def g46 (a:LL) (b c d:Int):Option (LL×Bool):=F46.S.g [.l a,.i b,.i c,.i d]
theorem Zne (a:LL) (c d e:Int):g46 a c d e =
 ((g84 a c d e).bind fun b=>
 if (!b.2) then
 some (E0,false)
 else
 (g51 a).bind fun f=>
 (Zqg f b.1 (iop .add .i64 b.1 1)).bind fun g=>
 some (g,true)):=by kernel_rfl
end Go.Proofs.YtlgmnddelljbmaaGreat
