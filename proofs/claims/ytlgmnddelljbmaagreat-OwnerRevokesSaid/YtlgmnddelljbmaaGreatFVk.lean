/- Functions of the program, as what they compute. -/
import Derived.Test.YtlgmnddelljbmaaGreatBVd
namespace Go.Proofs.YtlgmnddelljbmaaGreat
open Go Go.AM
set_option linter.unusedVariables false
set_option maxRecDepth 100000
noncomputable def Zo2:Fn:=⟨26,[4],[(3,[(3,.box [.int .i64,.int .i64,.int .i64]),(5,.c (.own false 33)),(8,.c (.slice 13)),(9,.c (.int .i64)),(10,.c (.int .i64))])],[],0,[],[],Tryz.f205,[.c (.slice 13),.agg [.int .i64,.int .i64,.int .i64]],[.c (.slice 3)],[(206,Zoy.S)]⟩
theorem ZsH:Zo2.S.Ok Tryz.prog 205:=Zo2.ok Tryz.func205 (by kernel_rfl) ⟨ZnR,trivial⟩
noncomputable def ZrY (a:LL) (b c d:Int):Option (LL):=Zo2.S.g [.l a,.i b,.i c,.i d]
noncomputable def Zei (k:Nat) (a b c:Int) (d e:LL) (f g:Int):Option (LL):=Zo2.lp [0] 0 r0 k [.i a,.i b,.i c,.l d,.l e,.i f,.i g]
theorem ZiQ (k:Nat) (d e f:Int) (b g:LL) (h c:Int):Zei (k+1) d e f b g h c =
 (if (cop .lss c h) then
 Zt g c hs18 fun (a:Qt21)=>
 (Zrs a.2.2.1 a.2.2.2.1 a.2.2.2.2.1 a.2.2.2.2.2.1 a.2.2.2.2.2.2.1 a.2.2.2.2.2.2.2.1 a.2.2.2.2.2.2.2.2.1 a.2.2.2.2.2.2.2.2.2.1 a.2.2.2.2.2.2.2.2.2.2.1 a.2.2.2.2.2.2.2.2.2.2.2.1 (d4 (d8 a)) d e f).bind fun i=>
 if i then
 ZA (Jb b (E0++[[AV.val (.int .i64 a.2.2.1),AV.val (.int .i64 a.2.2.2.1),AV.val (.int .i64 a.2.2.2.2.1)]]) 24)<|
 Zei k d e f (b++(E0++[[AV.val (.int .i64 a.2.2.1),AV.val (.int .i64 a.2.2.2.1),AV.val (.int .i64 a.2.2.2.2.1)]])) g h (iop .add .i64 c 1)
 else
 Zei k d e f b g h (iop .add .i64 c 1)
 else
 some (b)):=by kernel_rfl
theorem ZnW (a:LL) (b c d:Int):ZrY a b c d =
 (Zei Jn b c d E0 a (List.length a:Int) 0):=by kernel_rfl
noncomputable def ZrA:Fn:=⟨8,[2],[],[],0,[2,5,7],[],Tryz.f106,[.c (.slice 1)],[.c (.own true 3)],[]⟩
theorem ZrZ:ZrA.S.Ok Tryz.prog 106:=ZrA.ok Tryz.func106 (by kernel_rfl) trivial
noncomputable def ZtH (a:LL):Option (LL):=ZrA.S.g [.l a]
theorem Zne (a:LL):ZtH a =
 (ZhX a fun b=>
 if b then
 some (E0)
 else
 ZA (Jb E0 a 8)<|
 some ((E0++a))):=by kernel_rfl
noncomputable def F49:Fn:=⟨34,[4],[(4,[(0,.box hs4),(1,.c (.int .i64)),(5,.c (.own true 65)),(19,.c (.slice 1)),(20,.c (.int .i64)),(21,.c (.int .i64))])],[0],0,[4,5,31],[],Tryz.f49,[.box hs4,.c (.int .i64)],[.c (.own true 65)],[(106,ZrA.S),(103,ZoI.S)]⟩
theorem ZuX:F49.S.Ok Tryz.prog 49:=F49.ok Tryz.func49 (by kernel_rfl) ⟨ZrZ,⟨ZnD,trivial⟩⟩
noncomputable def g49 (a c d:Int) (e:Bool) (f h:LL) (j k m n o p q r s t u v w x y z A C D E:Int) (G:LL) (H J K L M N:Int) (O:Bool) (P:Int) (Q R T:LL) (U:Int):Option (Qt12):=F49.S.g [.i a,.i c,.i d,.b e,.l f,.l h,.i j,.i k,.i m,.i n,.i o,.i p,.i q,.i r,.i s,.i t,.i u,.i v,.i w,.i x,.i y,.i z,.i A,.i C,.i D,.i E,.l G,.i H,.i J,.i K,.i L,.i M,.i N,.b O,.i P,.l Q,.l R,.l T,.i U]
noncomputable def Zlv (k:Nat) (a c d:Int) (e:Bool) (f g:LL) (h j m n o p q r s t u v w x y z A C D E:Int) (G:LL) (H J K L M N:Int) (O:Bool) (P:Int) (Q R T:LL) (U:Int) (V W:LL) (X Y:Int):Option (Qt12):=F49.lp [2] 0 r0 k [.i a,.i c,.i d,.b e,.l f,.l g,.i h,.i j,.i m,.i n,.i o,.i p,.i q,.i r,.i s,.i t,.i u,.i v,.i w,.i x,.i y,.i z,.i A,.i C,.i D,.i E,.l G,.i H,.i J,.i K,.i L,.i M,.i N,.b O,.i P,.l Q,.l R,.l T,.i U,.l V,.l W,.i X,.i Y]
theorem ZkZ (k:Nat) (d e f:Int) (g:Bool) (h i:LL) (j l m n o p q r s t u v w x y z A C D E:Int) (G:LL) (H J K L M N:Int) (O:Bool) (P:Int) (Q R T:LL) (U:Int) (b V:LL) (W c:Int):Zlv (k+1) d e f g h i j l m n o p q r s t u v w x y z A C D E G H J K L M N O P Q R T U b V W c =
 (if (cop .lss c W) then
 Zt V c [.int .i64] fun (X:Int)=>
 (ZtD d e f g h i j l m n o p q r s t u v w x y z A C D E G H J K L M N O P Q R T U X).bind fun a=>
 ZA (Jb b (E0++[[I a.1,I a.2.1,I a.2.2.1,I a.2.2.2.1,I a.2.2.2.2.1,I a.2.2.2.2.2.1,I a.2.2.2.2.2.2.1,I a.2.2.2.2.2.2.2.1,I a.2.2.2.2.2.2.2.2.1,I a.2.2.2.2.2.2.2.2.2.1,I a.2.2.2.2.2.2.2.2.2.2.1,AV.val (.bool a.2.2.2.2.2.2.2.2.2.2.2.1),AV.val (.int .i64 (d4 (d8 a)).1),AV.val (.int .i64 (d4 (d8 a)).2.1),AV.val (.int .i64 (d2 (d4 (d8 a))).1),AV.val (.int .i64 (d2 (d4 (d8 a))).2.1),AV.val (.int .i64 (d16 a).1),AV.val (.int .i64 (d16 a).2.1),AV.val (.int .i64 (d2 (d16 a)).1),AV.val (.int .i64 (d2 (d16 a)).2.1),AV.val (.int .i64 (d4 (d16 a)).1),AV.val (.int .i64 (d4 (d16 a)).2.1),AV.val (.int .i64 (d2 (d4 (d16 a))).1),AV.val (.int .i64 (d2 (d4 (d16 a))).2.1),AV.val (.int .i64 (d8 (d16 a)).1),AV.val (.int .i64 (d8 (d16 a)).2.1),AV.val (.int .i64 (d2 (d8 (d16 a))).1),AV.val (.int .i64 (d2 (d8 (d16 a))).2.1),AV.val (.int .i64 (d4 (d8 (d16 a))).1),AV.val (.int .i64 (d4 (d8 (d16 a))).2.1),AV.val (.int .i64 (d2 (d4 (d8 (d16 a)))).1),AV.val (.int .i64 (d2 (d4 (d8 (d16 a)))).2.1),AV.slice false 3 (d16 (d16 a)).1,AV.val (.int .i64 (d16 (d16 a)).2.1),AV.val (.int .i64 (d2 (d16 (d16 a))).1),AV.val (.int .i64 (d2 (d16 (d16 a))).2.1),AV.val (.int .i64 (d4 (d16 (d16 a))).1),AV.val (.int .i64 (d4 (d16 (d16 a))).2.1),AV.val (.int .i64 (d2 (d4 (d16 (d16 a)))).1),AV.val (.bool (d2 (d4 (d16 (d16 a)))).2.1),AV.slice false 3 (d8 (d16 (d16 a))).1,AV.slice false 11 (d8 (d16 (d16 a))).2.1,AV.slice false 1 (d2 (d8 (d16 (d16 a)))).1,AV.slice false 2 (d2 (d8 (d16 (d16 a)))).2.1,AV.val (.int .i64 (d4 (d8 (d16 (d16 a)))).1),AV.val (.int .i64 (d4 (d8 (d16 (d16 a)))).2.1),AV.slice false 1 (d2 (d4 (d8 (d16 (d16 a))))).1,AV.slice false 1 (d2 (d4 (d8 (d16 (d16 a))))).2.1,AV.slice false 15 (d16 (d16 (d16 a))).1,AV.slice false 28 (d16 (d16 (d16 a))).2.1,AV.slice false 4 (d2 (d16 (d16 (d16 a)))).1,AV.slice false 2 (d2 (d16 (d16 (d16 a)))).2.1,AV.slice false 13 (d4 (d16 (d16 (d16 a)))).1,AV.slice false 3 (d4 (d16 (d16 (d16 a)))).2.1,AV.val (.int .i64 (d2 (d4 (d16 (d16 (d16 a))))).1),AV.val (.int .i64 (d2 (d4 (d16 (d16 (d16 a))))).2.1),AV.slice false 1 (d8 (d16 (d16 (d16 a)))).1,AV.slice false 1 (d8 (d16 (d16 (d16 a)))).2.1,AV.slice false 15 (d2 (d8 (d16 (d16 (d16 a))))).1,AV.slice false 28 (d2 (d8 (d16 (d16 (d16 a))))).2.1,AV.slice false 4 (d4 (d8 (d16 (d16 (d16 a))))).1,AV.slice false 2 (d4 (d8 (d16 (d16 (d16 a))))).2.1,AV.slice false 13 (d2 (d4 (d8 (d16 (d16 (d16 a)))))).1,AV.slice false 3 (d2 (d4 (d8 (d16 (d16 (d16 a)))))).2.1,AV.val (.bool (d16 (d16 (d16 (d16 a)))).1),AV.val (.int .i64 (d16 (d16 (d16 (d16 a)))).2.1),AV.slice false 1 (d2 (d16 (d16 (d16 (d16 a))))).1,AV.slice false 1 (d2 (d16 (d16 (d16 (d16 a))))).2.1,AV.slice false 15 (d4 (d16 (d16 (d16 (d16 a))))).1,AV.slice false 28 (d4 (d16 (d16 (d16 (d16 a))))).2.1,AV.slice false 4 (d2 (d4 (d16 (d16 (d16 (d16 a)))))).1,AV.slice false 2 (d2 (d4 (d16 (d16 (d16 (d16 a)))))).2.1,AV.slice false 13 (d8 (d16 (d16 (d16 (d16 a))))).1,AV.slice false 3 (d8 (d16 (d16 (d16 (d16 a))))).2.1]]) 1056)<|
 Zlv k (d2 (d8 (d16 (d16 (d16 (d16 a)))))).1 (d2 (d8 (d16 (d16 (d16 (d16 a)))))).2.1 (d4 (d8 (d16 (d16 (d16 (d16 a)))))).1 (d4 (d8 (d16 (d16 (d16 (d16 a)))))).2.1 (d2 (d4 (d8 (d16 (d16 (d16 (d16 a))))))).1 (d2 (d4 (d8 (d16 (d16 (d16 (d16 a))))))).2.1 (d16 (d16 (d16 (d16 (d16 a))))).1 (d16 (d16 (d16 (d16 (d16 a))))).2.1 (d2 (d16 (d16 (d16 (d16 (d16 a)))))).1 (d2 (d16 (d16 (d16 (d16 (d16 a)))))).2.1 (d4 (d16 (d16 (d16 (d16 (d16 a)))))).1 (d4 (d16 (d16 (d16 (d16 (d16 a)))))).2.1 (d2 (d4 (d16 (d16 (d16 (d16 (d16 a))))))).1 (d2 (d4 (d16 (d16 (d16 (d16 (d16 a))))))).2.1 (d8 (d16 (d16 (d16 (d16 (d16 a)))))).1 (d8 (d16 (d16 (d16 (d16 (d16 a)))))).2.1 (d2 (d8 (d16 (d16 (d16 (d16 (d16 a))))))).1 (d2 (d8 (d16 (d16 (d16 (d16 (d16 a))))))).2.1 (d4 (d8 (d16 (d16 (d16 (d16 (d16 a))))))).1 (d4 (d8 (d16 (d16 (d16 (d16 (d16 a))))))).2.1 (d2 (d4 (d8 (d16 (d16 (d16 (d16 (d16 a)))))))).1 (d2 (d4 (d8 (d16 (d16 (d16 (d16 (d16 a)))))))).2.1 (d16 (d16 (d16 (d16 (d16 (d16 a)))))).1 (d16 (d16 (d16 (d16 (d16 (d16 a)))))).2.1 (d2 (d16 (d16 (d16 (d16 (d16 (d16 a))))))).1 (d2 (d16 (d16 (d16 (d16 (d16 (d16 a))))))).2.1 (d4 (d16 (d16 (d16 (d16 (d16 (d16 a))))))).1 (d4 (d16 (d16 (d16 (d16 (d16 (d16 a))))))).2.1 (d2 (d4 (d16 (d16 (d16 (d16 (d16 (d16 a)))))))).1 (d2 (d4 (d16 (d16 (d16 (d16 (d16 (d16 a)))))))).2.1 (d8 (d16 (d16 (d16 (d16 (d16 (d16 a))))))).1 (d8 (d16 (d16 (d16 (d16 (d16 (d16 a))))))).2.1 (d2 (d8 (d16 (d16 (d16 (d16 (d16 (d16 a)))))))).1 (d2 (d8 (d16 (d16 (d16 (d16 (d16 (d16 a)))))))).2.1 (d4 (d8 (d16 (d16 (d16 (d16 (d16 (d16 a)))))))).1 (d4 (d8 (d16 (d16 (d16 (d16 (d16 (d16 a)))))))).2.1 (d2 (d4 (d8 (d16 (d16 (d16 (d16 (d16 (d16 a))))))))).1 (d2 (d4 (d8 (d16 (d16 (d16 (d16 (d16 (d16 a))))))))).2 U (b++(E0++[[I a.1,I a.2.1,I a.2.2.1,I a.2.2.2.1,I a.2.2.2.2.1,I a.2.2.2.2.2.1,I a.2.2.2.2.2.2.1,I a.2.2.2.2.2.2.2.1,I a.2.2.2.2.2.2.2.2.1,I a.2.2.2.2.2.2.2.2.2.1,I a.2.2.2.2.2.2.2.2.2.2.1,AV.val (.bool a.2.2.2.2.2.2.2.2.2.2.2.1),AV.val (.int .i64 (d4 (d8 a)).1),AV.val (.int .i64 (d4 (d8 a)).2.1),AV.val (.int .i64 (d2 (d4 (d8 a))).1),AV.val (.int .i64 (d2 (d4 (d8 a))).2.1),AV.val (.int .i64 (d16 a).1),AV.val (.int .i64 (d16 a).2.1),AV.val (.int .i64 (d2 (d16 a)).1),AV.val (.int .i64 (d2 (d16 a)).2.1),AV.val (.int .i64 (d4 (d16 a)).1),AV.val (.int .i64 (d4 (d16 a)).2.1),AV.val (.int .i64 (d2 (d4 (d16 a))).1),AV.val (.int .i64 (d2 (d4 (d16 a))).2.1),AV.val (.int .i64 (d8 (d16 a)).1),AV.val (.int .i64 (d8 (d16 a)).2.1),AV.val (.int .i64 (d2 (d8 (d16 a))).1),AV.val (.int .i64 (d2 (d8 (d16 a))).2.1),AV.val (.int .i64 (d4 (d8 (d16 a))).1),AV.val (.int .i64 (d4 (d8 (d16 a))).2.1),AV.val (.int .i64 (d2 (d4 (d8 (d16 a)))).1),AV.val (.int .i64 (d2 (d4 (d8 (d16 a)))).2.1),AV.slice false 3 (d16 (d16 a)).1,AV.val (.int .i64 (d16 (d16 a)).2.1),AV.val (.int .i64 (d2 (d16 (d16 a))).1),AV.val (.int .i64 (d2 (d16 (d16 a))).2.1),AV.val (.int .i64 (d4 (d16 (d16 a))).1),AV.val (.int .i64 (d4 (d16 (d16 a))).2.1),AV.val (.int .i64 (d2 (d4 (d16 (d16 a)))).1),AV.val (.bool (d2 (d4 (d16 (d16 a)))).2.1),AV.slice false 3 (d8 (d16 (d16 a))).1,AV.slice false 11 (d8 (d16 (d16 a))).2.1,AV.slice false 1 (d2 (d8 (d16 (d16 a)))).1,AV.slice false 2 (d2 (d8 (d16 (d16 a)))).2.1,AV.val (.int .i64 (d4 (d8 (d16 (d16 a)))).1),AV.val (.int .i64 (d4 (d8 (d16 (d16 a)))).2.1),AV.slice false 1 (d2 (d4 (d8 (d16 (d16 a))))).1,AV.slice false 1 (d2 (d4 (d8 (d16 (d16 a))))).2.1,AV.slice false 15 (d16 (d16 (d16 a))).1,AV.slice false 28 (d16 (d16 (d16 a))).2.1,AV.slice false 4 (d2 (d16 (d16 (d16 a)))).1,AV.slice false 2 (d2 (d16 (d16 (d16 a)))).2.1,AV.slice false 13 (d4 (d16 (d16 (d16 a)))).1,AV.slice false 3 (d4 (d16 (d16 (d16 a)))).2.1,AV.val (.int .i64 (d2 (d4 (d16 (d16 (d16 a))))).1),AV.val (.int .i64 (d2 (d4 (d16 (d16 (d16 a))))).2.1),AV.slice false 1 (d8 (d16 (d16 (d16 a)))).1,AV.slice false 1 (d8 (d16 (d16 (d16 a)))).2.1,AV.slice false 15 (d2 (d8 (d16 (d16 (d16 a))))).1,AV.slice false 28 (d2 (d8 (d16 (d16 (d16 a))))).2.1,AV.slice false 4 (d4 (d8 (d16 (d16 (d16 a))))).1,AV.slice false 2 (d4 (d8 (d16 (d16 (d16 a))))).2.1,AV.slice false 13 (d2 (d4 (d8 (d16 (d16 (d16 a)))))).1,AV.slice false 3 (d2 (d4 (d8 (d16 (d16 (d16 a)))))).2.1,AV.val (.bool (d16 (d16 (d16 (d16 a)))).1),AV.val (.int .i64 (d16 (d16 (d16 (d16 a)))).2.1),AV.slice false 1 (d2 (d16 (d16 (d16 (d16 a))))).1,AV.slice false 1 (d2 (d16 (d16 (d16 (d16 a))))).2.1,AV.slice false 15 (d4 (d16 (d16 (d16 (d16 a))))).1,AV.slice false 28 (d4 (d16 (d16 (d16 (d16 a))))).2.1,AV.slice false 4 (d2 (d4 (d16 (d16 (d16 (d16 a)))))).1,AV.slice false 2 (d2 (d4 (d16 (d16 (d16 (d16 a)))))).2.1,AV.slice false 13 (d8 (d16 (d16 (d16 (d16 a))))).1,AV.slice false 3 (d8 (d16 (d16 (d16 (d16 a))))).2.1]])) V W (iop .add .i64 c 1)
 else
 some (b,d,e,f,g,h,i,j,l,m,n,o,p,q,r,s,t,u,v,w,x,y,z,A,C,D,E,G,H,J,K,L,M,N,O,P,Q,R,T)):=by kernel_rfl
theorem ZqD (b c d:Int) (e:Bool) (f g:LL) (h i j k l m n o p q r s t u v w x y z A:Int) (C:LL) (D E G H J K:Int) (L:Bool) (M:Int) (P a N:LL) (O:Int):g49 b c d e f g h i j k l m n o p q r s t u v w x y z A C D E G H J K L M P a N O =
 ((ZtH a).bind fun Q=>
 Zlv Jn b c d e f g h i j k l m n o p q r s t u v w x y z A C D E G H J K L M Q a N O E0 a (List.length a:Int) 0):=by kernel_rfl
noncomputable def Zoz:Fn:=⟨92,[4],[(6,[(0,.box hs4),(3,.box hs19),(5,.mref 28 0),(39,.c (.slice 13)),(40,.c (.int .i64)),(41,.c (.int .i64)),(28,.c (.own true 1048804))]),(15,[(0,.box hs4),(5,.mref 28 0),(8,.c (.own true 65)),(75,.c (.int .i64)),(76,.c (.int .i64)),(28,.c (.own true 1048804))])],[0],0,[],[(19,[(8,0)])],Tryz.f160,[.box hs4,.agg hs19],[.c (.own false 65)],[(205,Zo2.S),(47,F47.S),(206,Zoy.S),(49,F49.S)]⟩
theorem Ztv:Zoz.S.Ok Tryz.prog 160:=Zoz.ok Tryz.func160 (by kernel_rfl) ⟨ZsH,⟨ZpL,⟨ZnR,⟨ZuX,trivial⟩⟩⟩⟩
noncomputable def ZoH (a c d:Int) (e:Bool) (f h:LL) (j k m n o p q r s t u v w x y z A C D E:Int) (G:LL) (H J K L M N:Int) (O:Bool) (P:Int) (Q R T:LL) (U V W:Int) (X:LL) (Y Z aa ab ac ad:Int) (ae:Bool):Option (Qt12):=Zoz.S.g [.i a,.i c,.i d,.b e,.l f,.l h,.i j,.i k,.i m,.i n,.i o,.i p,.i q,.i r,.i s,.i t,.i u,.i v,.i w,.i x,.i y,.i z,.i A,.i C,.i D,.i E,.l G,.i H,.i J,.i K,.i L,.i M,.i N,.b O,.i P,.l Q,.l R,.l T,.i U,.i V,.i W,.l X,.i Y,.i Z,.i aa,.i ab,.i ac,.i ad,.b ae]
noncomputable def Zck (k:Nat) (a c d:Int) (e:Bool) (f g:LL) (h j m n o p q r s t u v w x y z A C D E:Int) (G:LL) (H J K L M N:Int) (O:Bool) (P:Int) (Q R T U:LL) (V W:Int) (X:LL):Option (Qt12):=Zoz.lp [0,1,2,1,4] 0 r0 k [.i a,.i c,.i d,.b e,.l f,.l g,.i h,.i j,.i m,.i n,.i o,.i p,.i q,.i r,.i s,.i t,.i u,.i v,.i w,.i x,.i y,.i z,.i A,.i C,.i D,.i E,.l G,.i H,.i J,.i K,.i L,.i M,.i N,.b O,.i P,.l Q,.l R,.l T,.l U,.i V,.i W,.l X]
theorem Zjp (k:Nat) (d e f:Int) (g:Bool) (h i:LL) (j l m n o p q r s t u v w x y z A C D E:Int) (G:LL) (H J K L M N:Int) (O:Bool) (P:Int) (Q R T b:LL) (U a:Int) (c:LL):Zck (k+1) d e f g h i j l m n o p q r s t u v w x y z A C D E G H J K L M N O P Q R T b U a c =
 (if (cop .lss a U) then
 ZA ((0:Int)≤a)<|
 ZA ((a:Int) < (List.length b:Int))<|
 Zt b a hs0 fun (V:Qt3)=>
 ZA (ZaD .any c 0=true)<|
 ZA ((0:Int)≤a)<|
 ZA ((a:Int) < (List.length b:Int))<|
 ZA ((0:Int)≤a)<|
 ZA ((a:Int) < (List.length b:Int))<|
 Zck k d e f g h i j l m n o p q r s t u v w x y z A C D E G H J K L M N O P Q R T (JJ b (Int.toNat a) 40 [AV.slice false 3 (JL c V.2.2.2.1)]) U (iop .add .i64 a 1) c
 else
 some (b,d,e,f,g,h,i,j,l,m,n,o,p,q,r,s,t,u,v,w,x,y,z,A,C,D,E,G,H,J,K,L,M,N,O,P,Q,R,T)):=by kernel_rfl
noncomputable def Zfg (k:Nat) (a c d:Int) (e:Bool) (f g:LL) (h j m n o p q r s t u v w x y z A C D E:Int) (G:LL) (H J K L M N:Int) (O:Bool) (P:Int) (Q R T:LL) (U V W:Int) (X:LL) (Y Z aa ab ac ad:Int) (ae:Bool) (af:LL) (ag ah:Int) (ai:LL):Option (Qt12):=Zoz.lp [0,1,2] 0 r0 k [.i a,.i c,.i d,.b e,.l f,.l g,.i h,.i j,.i m,.i n,.i o,.i p,.i q,.i r,.i s,.i t,.i u,.i v,.i w,.i x,.i y,.i z,.i A,.i C,.i D,.i E,.l G,.i H,.i J,.i K,.i L,.i M,.i N,.b O,.i P,.l Q,.l R,.l T,.i U,.i V,.i W,.l X,.i Y,.i Z,.i aa,.i ab,.i ac,.i ad,.b ae,.l af,.i ag,.i ah,.l ai]
theorem Zjr (k:Nat) (d e f:Int) (g:Bool) (h i:LL) (j l m n o p q r s t u v w x y z A C D E:Int) (G:LL) (H J K L M N:Int) (O:Bool) (X:Int) (P Y Q:LL) (R T U:Int) (Z:LL) (aa ab ac ad ae af:Int) (ag:Bool) (V:LL) (W c:Int) (b:LL):Zfg (k+1) d e f g h i j l m n o p q r s t u v w x y z A C D E G H J K L M N O X P Y Q R T U Z aa ab ac ad ae af ag V W c b =
 (if (cop .lss c W) then
 Zt V c hs18 fun (a:Qt21)=>
 (Zrs a.2.2.1 a.2.2.2.1 a.2.2.2.2.1 a.2.2.2.2.2.1 a.2.2.2.2.2.2.1 a.2.2.2.2.2.2.2.1 a.2.2.2.2.2.2.2.2.1 a.2.2.2.2.2.2.2.2.2.1 a.2.2.2.2.2.2.2.2.2.2.1 a.2.2.2.2.2.2.2.2.2.2.2.1 (d4 (d8 a)) R T U).bind fun ah=>
 if ah then
 ZA (ZaD .full b 0=true)<|
 ZA (Jb (JL b a.1) (E0++[[AV.val (.int .i64 a.2.2.1),AV.val (.int .i64 a.2.2.2.1),AV.val (.int .i64 a.2.2.2.2.1)]]) 24)<|
 ZA (ZaD .at (YB b a.1) a.1=true)<|
 Zfg k d e f g h i j l m n o p q r s t u v w x y z A C D E G H J K L M N O X P Y Q R T U Z aa ab ac ad ae af ag V W (iop .add .i64 c 1) (Kj (YB b a.1) a.1 3 ((JL b a.1)++(E0++[[AV.val (.int .i64 a.2.2.1),AV.val (.int .i64 a.2.2.2.1),AV.val (.int .i64 a.2.2.2.2.1)]])))
 else
 Zfg k d e f g h i j l m n o p q r s t u v w x y z A C D E G H J K L M N O X P Y Q R T U Z aa ab ac ad ae af ag V W (iop .add .i64 c 1) b
 else
 ZA (ZaD .any b 0=true)<|
 ZA (ZaD .keys b 0=true)<|
 (g49 d e f g h i j l m n o p q r s t u v w x y z A C D E G H J K L M N O 2 P (KV b) Q 6).bind fun a=>
 Zck Jn a.2.1 a.2.2.1 a.2.2.2.1 a.2.2.2.2.1 a.2.2.2.2.2.1 a.2.2.2.2.2.2.1 a.2.2.2.2.2.2.2.1 a.2.2.2.2.2.2.2.2.1 a.2.2.2.2.2.2.2.2.2.1 a.2.2.2.2.2.2.2.2.2.2.1 a.2.2.2.2.2.2.2.2.2.2.2.1 (d4 (d8 a)).1 (d4 (d8 a)).2.1 (d2 (d4 (d8 a))).1 (d2 (d4 (d8 a))).2.1 (d16 a).1 (d16 a).2.1 (d2 (d16 a)).1 (d2 (d16 a)).2.1 (d4 (d16 a)).1 (d4 (d16 a)).2.1 (d2 (d4 (d16 a))).1 (d2 (d4 (d16 a))).2.1 (d8 (d16 a)).1 (d8 (d16 a)).2.1 (d2 (d8 (d16 a))).1 (d2 (d8 (d16 a))).2.1 (d4 (d8 (d16 a))).1 (d4 (d8 (d16 a))).2.1 (d2 (d4 (d8 (d16 a)))).1 (d2 (d4 (d8 (d16 a)))).2.1 (d16 (d16 a)).1 (d16 (d16 a)).2.1 (d2 (d16 (d16 a))).1 (d2 (d16 (d16 a))).2.1 (d4 (d16 (d16 a))).1 (d4 (d16 (d16 a))).2.1 (d2 (d4 (d16 (d16 a)))) a.1 (List.length a.1:Int) 0 b):=by kernel_rfl
theorem Zkd (d e f:Int) (g:Bool) (b h:LL) (c i j k l m n o p q r s t u v w x y z A:Int) (C:LL) (D E G H J K:Int) (L:Bool) (M:Int) (O P ad:LL) (Q R T:Int) (V:LL) (W X Y Z aa ab:Int) (ac:Bool):ZoH d e f g b h c i j k l m n o p q r s t u v w x y z A C D E G H J K L M O P ad Q R T V W X Y Z aa ab ac =
 ((ZrY b Q R T).bind fun U=>
 if (cop .eql (List.length U:Int) 0) then
 (g47 d e f g b h c i j k l m n o p q r s t u v w x y z A C D E G H J K L M O P U 0 false E0).bind fun a=>
 some (a.1,a.2.1,a.2.2.1,a.2.2.2.1,a.2.2.2.2.1,a.2.2.2.2.2.1,a.2.2.2.2.2.2.1,a.2.2.2.2.2.2.2.1,a.2.2.2.2.2.2.2.2.1,a.2.2.2.2.2.2.2.2.2.1,a.2.2.2.2.2.2.2.2.2.2.1,a.2.2.2.2.2.2.2.2.2.2.2.1,(d4 (d8 a)).1,(d4 (d8 a)).2.1,(d2 (d4 (d8 a))).1,(d2 (d4 (d8 a))).2.1,(d16 a).1,(d16 a).2.1,(d2 (d16 a)).1,(d2 (d16 a)).2.1,(d4 (d16 a)).1,(d4 (d16 a)).2.1,(d2 (d4 (d16 a))).1,(d2 (d4 (d16 a))).2.1,(d8 (d16 a)).1,(d8 (d16 a)).2.1,(d2 (d8 (d16 a))).1,(d2 (d8 (d16 a))).2.1,(d4 (d8 (d16 a))).1,(d4 (d8 (d16 a))).2.1,(d2 (d4 (d8 (d16 a)))).1,(d2 (d4 (d8 (d16 a)))).2.1,(d16 (d16 a)).1,(d16 (d16 a)).2.1,(d2 (d16 (d16 a))).1,(d2 (d16 (d16 a))).2.1,(d4 (d16 (d16 a))).1,(d4 (d16 (d16 a))).2.1,(d2 (d4 (d16 (d16 a)))))
 else
 ZA (ZaD .at (E0++[[AV.slice false 2 E0]]) c=true)<|
 Zfg Jn d e f g b h c i j k l m n o p q r s t u v w x y z A C D E G H J K L M O P U Q R T V W X Y Z aa ab ac b (List.length b:Int) 0 (Kj (E0++[[AV.slice false 2 E0]]) c 3 E0)):=by kernel_rfl
end Go.Proofs.YtlgmnddelljbmaaGreat
