/- Functions of the program, as what they compute. -/
import Derived.Test.YthdihcchfjlgkaaGreatF5a
namespace Go.Proofs.YthdihcchfjlgkaaGreat
open Go Go.AM
set_option linter.unusedVariables false
set_option maxRecDepth 100000
noncomputable def F74:Fn:=⟨8,[2],[],[],0,[2,5,7],[],Tryz.f74,[.c (.slice 15)],[.c (.own true 62)],[]⟩
theorem ZAv:F74.S.Ok Tryz.prog 74:=F74.ok Tryz.func74 (by kernel_rfl) trivial
noncomputable def g74 (a:LL):Option (LL):=F74.S.g [.l a]
theorem Zt4 (a:LL):g74 a =
 (ZnP a fun b=>
 if b then
 some (E0)
 else
 ZA (Jy E0 a 136)<|
 some ((E0++a))):=by kernel_rfl
noncomputable def F70:Fn:=⟨8,[2],[],[],0,[2,5,7],[],Tryz.f70,[.c (.slice 3)],[.c (.own true 25)],[]⟩
theorem ZAY:F70.S.Ok Tryz.prog 70:=F70.ok Tryz.func70 (by kernel_rfl) trivial
noncomputable def g70 (a:LL):Option (LL):=F70.S.g [.l a]
theorem Ztv (a:LL):g70 a =
 (ZnP a fun b=>
 if b then
 some (E0)
 else
 ZA (Jy E0 a 24)<|
 some ((E0++a))):=by kernel_rfl
noncomputable def F40:Fn:=⟨8,[2],[],[],0,[],[(2,[(1,4)])],Tryz.f40,[.agg hs10],[.agg hs10],[(70,F70.S)]⟩
theorem ZwE:F40.S.Ok Tryz.prog 40:=F40.ok Tryz.func40 (by kernel_rfl) ⟨ZAY,trivial⟩
noncomputable def g40 (a c d:Int) (e:LL) (f h j k m n:Int) (o:Bool):Option (Qt20):=F40.S.g [.i a,.i c,.i d,.l e,.i f,.i h,.i j,.i k,.i m,.i n,.b o]
theorem ZtY (a b c:Int) (d:LL) (e f g h i j:Int) (k:Bool):g40 a b c d e f g h i j k =
 ((g70 d).bind fun l=>
 some (a,b,c,l,e,f,g,h,i,j,k)):=by kernel_rfl
noncomputable def F43:Fn:=⟨24,[2],[(3,[(3,.c (.own true 62)),(8,.c (.int .i64)),(9,.c (.int .i64))])],[],0,[2],[],Tryz.f43,[.c (.slice 15)],[.c (.own true 62)],[(74,F74.S),(40,F40.S)]⟩
theorem ZuC:F43.S.Ok Tryz.prog 43:=F43.ok Tryz.func43 (by kernel_rfl) ⟨ZAv,⟨ZwE,trivial⟩⟩
noncomputable def g43 (a:LL):Option (LL):=F43.S.g [.l a]
noncomputable def ZhN (k:Nat) (a:LL) (b c:Int):Option (LL):=F43.lp [2] 0 r0 k [.l a,.i b,.i c]
theorem Zjr (k:Nat) (d:LL) (e a:Int):ZhN (k+1) d e a =
 (if (cop .lss a e) then
 ZA ((0:Int)≤a)<|
 ZA ((a:Int) < (List.length d:Int))<|
 Zl d a hs8 fun (b:Qt13)=>
 (g40 b.1 b.2.1 b.2.2.1 b.2.2.2.1 b.2.2.2.2.1 b.2.2.2.2.2.1 b.2.2.2.2.2.2.1 b.2.2.2.2.2.2.2.1 b.2.2.2.2.2.2.2.2.1 b.2.2.2.2.2.2.2.2.2.1 b.2.2.2.2.2.2.2.2.2.2.1).bind fun c=>
 ZA ((0:Int)≤a)<|
 ZA ((a:Int) < (List.length d:Int))<|
 ZA ((0:Int)≤a)<|
 ZA ((a:Int) < (List.length d:Int))<|
 ZhN k (ZE d (Int.toNat a) 0 [AV.val (.int .i64 c.1),AV.val (.int .i64 c.2.1),AV.val (.int .i64 c.2.2.1),AV.slice false 3 c.2.2.2.1,AV.val (.int .i64 c.2.2.2.2.1),AV.val (.int .i64 c.2.2.2.2.2.1),AV.val (.int .i64 c.2.2.2.2.2.2.1),AV.val (.int .i64 c.2.2.2.2.2.2.2.1),AV.val (.int .i64 c.2.2.2.2.2.2.2.2.1),AV.val (.int .i64 c.2.2.2.2.2.2.2.2.2.1),AV.val (.bool c.2.2.2.2.2.2.2.2.2.2)]) e (iop .add .i64 a 1)
 else
 some (d)):=by kernel_rfl
theorem Zvi (a:LL):g43 a =
 ((g74 a).bind fun b=>
 ZhN Zw b (List.length b:Int) 0):=by kernel_rfl
noncomputable def F73:Fn:=⟨8,[2],[],[],0,[2,5,7],[],Tryz.f73,[.c (.slice 28)],[.c (.own true 35)],[]⟩
theorem ZB1:F73.S.Ok Tryz.prog 73:=F73.ok Tryz.func73 (by kernel_rfl) trivial
noncomputable def g73 (a:LL):Option (LL):=F73.S.g [.l a]
theorem Zvt (a:LL):g73 a =
 (ZnP a fun b=>
 if b then
 some (E0)
 else
 ZA (Jy E0 a 240)<|
 some ((E0++a))):=by kernel_rfl
noncomputable def F42:Fn:=⟨24,[2],[(3,[(3,.c (.own true 35)),(8,.c (.int .i64)),(9,.c (.int .i64))])],[],0,[2],[],Tryz.f42,[.c (.slice 28)],[.c (.own true 35)],[(73,F73.S),(40,F40.S)]⟩
theorem ZAg:F42.S.Ok Tryz.prog 42:=F42.ok Tryz.func42 (by kernel_rfl) ⟨ZB1,⟨ZwE,trivial⟩⟩
noncomputable def g42 (a:LL):Option (LL):=F42.S.g [.l a]
noncomputable def ZiK (k:Nat) (a:LL) (b c:Int):Option (LL):=F42.lp [2] 0 r0 k [.l a,.i b,.i c]
theorem Zjo (k:Nat) (d:LL) (e a:Int):ZiK (k+1) d e a =
 (if (cop .lss a e) then
 ZA ((0:Int)≤a)<|
 ZA ((a:Int) < (List.length d:Int))<|
 Zl d a hs3 fun (b:Qt7)=>
 (g40 (d16 b).2.1 (d2 (d16 b)).1 (d2 (d16 b)).2.1 (d4 (d16 b)).1 (d4 (d16 b)).2.1 (d2 (d4 (d16 b))).1 (d2 (d4 (d16 b))).2.1 (d8 (d16 b)).1 (d8 (d16 b)).2.1 (d2 (d8 (d16 b))).1 (d2 (d8 (d16 b))).2).bind fun c=>
 ZA ((0:Int)≤a)<|
 ZA ((a:Int) < (List.length d:Int))<|
 ZA ((0:Int)≤a)<|
 ZA ((a:Int) < (List.length d:Int))<|
 ZiK k (ZE d (Int.toNat a) 17 [AV.val (.int .i64 c.1),AV.val (.int .i64 c.2.1),AV.val (.int .i64 c.2.2.1),AV.slice false 3 c.2.2.2.1,AV.val (.int .i64 c.2.2.2.2.1),AV.val (.int .i64 c.2.2.2.2.2.1),AV.val (.int .i64 c.2.2.2.2.2.2.1),AV.val (.int .i64 c.2.2.2.2.2.2.2.1),AV.val (.int .i64 c.2.2.2.2.2.2.2.2.1),AV.val (.int .i64 c.2.2.2.2.2.2.2.2.2.1),AV.val (.bool c.2.2.2.2.2.2.2.2.2.2)]) e (iop .add .i64 a 1)
 else
 some (d)):=by kernel_rfl
theorem Zts (a:LL):g42 a =
 ((g73 a).bind fun b=>
 ZiK Zw b (List.length b:Int) 0):=by kernel_rfl
noncomputable def F66:Fn:=⟨8,[3],[],[1],0,[],[],Tryz.f66,[.agg hs3,.box [.int .i64,.int .i64,.int .i64]],[.c (.bool)],[]⟩
theorem ZAo:F66.S.Ok Tryz.prog 66:=F66.ok Tryz.func66 (by kernel_rfl) trivial
noncomputable def g66 (a c d e f h j k m n o p q r s t u v w x:Int) (y:LL) (z A C D E G:Int) (H:Bool) (J K L:Int):Option (Bool×Int×Int×Int):=F66.S.g [.i a,.i c,.i d,.i e,.i f,.i h,.i j,.i k,.i m,.i n,.i o,.i p,.i q,.i r,.i s,.i t,.i u,.i v,.i w,.i x,.l y,.i z,.i A,.i C,.i D,.i E,.i G,.b H,.i J,.i K,.i L]
theorem Ztk (d e f g h i j k l m n o p q r s t u v w:Int) (x:LL) (y z A C D E:Int) (G:Bool) (a b c:Int):g66 d e f g h i j k l m n o p q r s t u v w x y z A C D E G a b c =
 (some (((cop .eql d a)&&((cop .eql e b)&&((cop .eql f c)&&true))),a,b,c)):=by kernel_rfl
noncomputable def ZhE:Fn:=⟨19,[4],[(2,[(0,.c (.slice 28)),(1,.clo 66 [19]),(7,.c (.int .i64)),(8,.c (.int .i64)),(19,.gbox [.int .i64,.int .i64,.int .i64])])],[],1,[],[],Tryz.f37,[.c (.slice 28),.clo 66 [19],.dead,.dead,.dead,.dead,.dead,.dead,.dead,.dead,.dead,.dead,.dead,.dead,.dead,.dead,.dead,.dead,.dead,.gbox [.int .i64,.int .i64,.int .i64]],[.c (.int .i64)],[(66,F66.S)]⟩
theorem Zr9:ZhE.S.Ok Tryz.prog 37:=ZhE.ok Tryz.func37 (by kernel_rfl) ⟨ZAo,trivial⟩
noncomputable def ZpK (a:LL) (b c d:Int):Option (Int×Int×Int×Int):=ZhE.S.g [.l a,.i b,.i c,.i d]
noncomputable def Vv (k:Nat) (a:LL) (b c d e f:Int):Option (Int×Int×Int×Int):=ZhE.lp [0] 0 r0 k [.l a,.i b,.i c,.i d,.i e,.i f]
theorem ZcM (k:Nat) (d:LL) (e c f g h:Int):Vv (k+1) d e c f g h =
 (if (cop .lss c e) then
 Zl d c hs3 fun (a:Qt7)=>
 (g66 a.1 a.2.1 a.2.2.1 a.2.2.2.1 a.2.2.2.2.1 a.2.2.2.2.2.1 a.2.2.2.2.2.2.1 a.2.2.2.2.2.2.2.1 a.2.2.2.2.2.2.2.2.1 a.2.2.2.2.2.2.2.2.2.1 a.2.2.2.2.2.2.2.2.2.2.1 a.2.2.2.2.2.2.2.2.2.2.2.1 (d4 (d8 a)).1 (d4 (d8 a)).2.1 (d2 (d4 (d8 a))).1 (d2 (d4 (d8 a))).2.1 (d16 a).1 (d16 a).2.1 (d2 (d16 a)).1 (d2 (d16 a)).2.1 (d4 (d16 a)).1 (d4 (d16 a)).2.1 (d2 (d4 (d16 a))).1 (d2 (d4 (d16 a))).2.1 (d8 (d16 a)).1 (d8 (d16 a)).2.1 (d2 (d8 (d16 a))).1 (d2 (d8 (d16 a))).2 f g h).bind fun b=>
 if b.1 then
 some (c,b.2.1,b.2.2.1,b.2.2.2)
 else
 Vv k d e (iop .add .i64 c 1) b.2.1 b.2.2.1 b.2.2.2
 else
 some ((-1),f,g,h)):=by kernel_rfl
theorem ZlQ (a:LL) (b c d:Int):ZpK a b c d =
 (Vv Zw a (List.length a:Int) 0 b c d):=by kernel_rfl
noncomputable def F35:Fn:=⟨13,[4,5],[],[],0,[],[],Tryz.f35,[.c (.slice 28),.agg [.int .i64,.int .i64,.int .i64]],[.c (.int .i64),.c (.bool)],[(37,ZhE.S)]⟩
theorem ZAk:F35.S.Ok Tryz.prog 35:=F35.ok Tryz.func35 (by kernel_rfl) ⟨Zr9,trivial⟩
noncomputable def g35 (a:LL) (b c d:Int):Option (Int×Bool):=F35.S.g [.l a,.i b,.i c,.i d]
theorem Zti (a:LL) (b c d:Int):g35 a b c d =
 ((ZpK a b c d).bind fun e=>
 some (e.1,(cop .geq e.1 0))):=by kernel_rfl
noncomputable def F45.S:Fun:=ZAj true 35
theorem ZA6:F45.S.Ok Tryz.prog 45:=delF_ok (T:=23) (B:=4) (I:=3) (U:=0) (e:=35) (bytes:=240) mixed (by kernel_rfl) Tryz.func45 (by kernel_rfl) ⟨by kernel_rfl,by kernel_rfl,by kernel_rfl⟩
noncomputable def g45 (a:LL) (b c:Int):Option LL:=F45.S.g [.l a,.i b,.i c]
theorem Zum (a:LL) (b c:Int):g45 a b c=ZxS a b c:=rfl
noncomputable def F81:Fn:=⟨49,[6,7],[],[],0,[6],[],Tryz.f81,[.c (.slice 15),.c (.int .i64),.agg hs10],[.c (.own true 62),.c (.int .i64)],[(143,ZsX.S),(125,Zol.S),(144,Zrd.S),(43,F43.S),(40,F40.S)]⟩
theorem ZAI:F81.S.Ok Tryz.prog 81:=F81.ok Tryz.func81 (by kernel_rfl) ⟨ZuA,⟨Zmt,⟨Zoq,⟨ZuC,⟨ZwE,trivial⟩⟩⟩⟩⟩
noncomputable def g81 (a:LL) (c d e f:Int) (h:LL) (j k m n o p:Int) (q:Bool):Option (LL×Int):=F81.S.g [.l a,.i c,.i d,.i e,.i f,.l h,.i j,.i k,.i m,.i n,.i o,.i p,.b q]
theorem Zv1 (d:LL) (c e f g:Int) (h:LL) (i j k l m n:Int) (o:Bool):g81 d c e f g h i j k l m n o =
 ((ZwN d e f g).bind fun q=>
 if (cop .lss c 0) then
 some (E0,1)
 else
 if (cop .geq c (List.length d:Int)) then
 some (E0,1)
 else
 (ZpI e f g h i j k l m n o).bind fun r=>
 if (!r) then
 some (E0,1)
 else
 if q.2 then
 some (E0,1)
 else
 Zl d c hs8 fun (a:Qt13)=>
 (ZsC a.1 a.2.1 a.2.2.1 a.2.2.2.1 a.2.2.2.2.1 a.2.2.2.2.2.1 a.2.2.2.2.2.2.1 a.2.2.2.2.2.2.2.1 a.2.2.2.2.2.2.2.2.1 a.2.2.2.2.2.2.2.2.2.1 a.2.2.2.2.2.2.2.2.2.2.1 a.2.2.2.2.2.2.2.2.2.2.2.1 (d4 (d8 a)).1 (d4 (d8 a)).2.1 (d2 (d4 (d8 a)))).bind fun s=>
 if (!s) then
 some (E0,3)
 else
 (g43 d).bind fun p=>
 (g40 e f g h i j k l m n o).bind fun b=>
 ZA ((0:Int)≤c)<|
 ZA ((c:Int) < (List.length p:Int))<|
 ZA ((0:Int)≤c)<|
 ZA ((c:Int) < (List.length p:Int))<|
 some ((ZE p (Int.toNat c) 0 [AV.val (.int .i64 b.1),AV.val (.int .i64 b.2.1),AV.val (.int .i64 b.2.2.1),AV.slice false 3 b.2.2.2.1,AV.val (.int .i64 b.2.2.2.2.1),AV.val (.int .i64 b.2.2.2.2.2.1),AV.val (.int .i64 b.2.2.2.2.2.2.1),AV.val (.int .i64 b.2.2.2.2.2.2.2.1),AV.val (.int .i64 b.2.2.2.2.2.2.2.2.1),AV.val (.int .i64 b.2.2.2.2.2.2.2.2.2.1),AV.val (.bool b.2.2.2.2.2.2.2.2.2.2)]),0)):=by kernel_rfl
noncomputable def F82:Fn:=⟨44,[4,5,6],[],[],0,[4],[(6,[(7,0)])],Tryz.f82,[.c (.slice 15),.c (.int .i64)],[.c (.own false 62),.agg hs10,.c (.bool)],[(144,Zrd.S),(43,F43.S)]⟩
theorem ZAx:F82.S.Ok Tryz.prog 82:=F82.ok Tryz.func82 (by kernel_rfl) ⟨Zoq,⟨ZuC,trivial⟩⟩
noncomputable def g82 (a:LL) (b:Int):Option (Qt15):=F82.S.g [.l a,.i b]
theorem ZpH (e:LL) (a:Int):g82 e a =
 (if (cop .lss a 0) then
 some (E0,0,0,0,E0,0,0,0,0,0,0,false,false)
 else
 if (cop .geq a (List.length e:Int)) then
 some (E0,0,0,0,E0,0,0,0,0,0,0,false,false)
 else
 Zl e a hs8 fun (b:Qt13)=>
 (ZsC b.1 b.2.1 b.2.2.1 b.2.2.2.1 b.2.2.2.2.1 b.2.2.2.2.2.1 b.2.2.2.2.2.2.1 b.2.2.2.2.2.2.2.1 b.2.2.2.2.2.2.2.2.1 b.2.2.2.2.2.2.2.2.2.1 b.2.2.2.2.2.2.2.2.2.2.1 b.2.2.2.2.2.2.2.2.2.2.2.1 (d4 (d8 b)).1 (d4 (d8 b)).2.1 (d2 (d4 (d8 b)))).bind fun f=>
 if f then
 some (E0,0,0,0,E0,0,0,0,0,0,0,false,false)
 else
 (g43 e).bind fun d=>
 ZA ((0:Int)≤a)<|
 ZA ((a:Int) < (List.length d:Int))<|
 Zl d a hs8 fun (c:Qt13)=>
 ZA ((0:Int)≤a)<|
 ZA ((a:Int) < (List.length d:Int))<|
 ZA ((0:Int)≤a)<|
 ZA ((a:Int) < (List.length d:Int))<|
 ZA ((0:Int)≤a)<|
 ZA ((a:Int) < (List.length (ZE d (Int.toNat a) 0 [AV.val (.int .i64 0),AV.val (.int .i64 0),AV.val (.int .i64 0),AV.slice false 3 E0,AV.val (.int .i64 0),AV.val (.int .i64 0),AV.val (.int .i64 0),AV.val (.int .i64 0),AV.val (.int .i64 0),AV.val (.int .i64 0),AV.val (.bool false)]):Int))<|
 ZA ((0:Int)≤a)<|
 ZA ((a:Int) < (List.length (ZE d (Int.toNat a) 0 [AV.val (.int .i64 0),AV.val (.int .i64 0),AV.val (.int .i64 0),AV.slice false 3 E0,AV.val (.int .i64 0),AV.val (.int .i64 0),AV.val (.int .i64 0),AV.val (.int .i64 0),AV.val (.int .i64 0),AV.val (.int .i64 0),AV.val (.bool false)]):Int))<|
 some ((ZE (ZE d (Int.toNat a) 0 [AV.val (.int .i64 0),AV.val (.int .i64 0),AV.val (.int .i64 0),AV.slice false 3 E0,AV.val (.int .i64 0),AV.val (.int .i64 0),AV.val (.int .i64 0),AV.val (.int .i64 0),AV.val (.int .i64 0),AV.val (.int .i64 0),AV.val (.bool false)]) (Int.toNat a) 12 [AV.val (.int .i64 0),AV.val (.int .i64 0),AV.val (.int .i64 0)]),c.1,c.2.1,c.2.2.1,c.2.2.2.1,c.2.2.2.2.1,c.2.2.2.2.2.1,c.2.2.2.2.2.2.1,c.2.2.2.2.2.2.2.1,c.2.2.2.2.2.2.2.2.1,c.2.2.2.2.2.2.2.2.2.1,c.2.2.2.2.2.2.2.2.2.2.1,true)):=by kernel_rfl
noncomputable def F46:Fn:=⟨65,[6],[(6,[(0,.c (.slice 15)),(4,.box hs3),(21,.c (.slice 11)),(22,.c (.int .i64)),(23,.c (.int .i64))])],[],0,[],[(10,[(9,0)])],Tryz.f46,[.c (.slice 15),.agg hs3,.c (.slice 11)],[.c (.slice 15)],[(81,F81.S),(82,F82.S)]⟩
theorem ZAH:F46.S.Ok Tryz.prog 46:=F46.ok Tryz.func46 (by kernel_rfl) ⟨ZAI,⟨ZAx,trivial⟩⟩
noncomputable def g46 (a:LL) (c d e f h j k m n o p q r s t u v w x y:Int) (z:LL) (A C D E G H:Int) (J:Bool) (K:LL):Option (LL):=F46.S.g [.l a,.i c,.i d,.i e,.i f,.i h,.i j,.i k,.i m,.i n,.i o,.i p,.i q,.i r,.i s,.i t,.i u,.i v,.i w,.i x,.i y,.l z,.i A,.i C,.i D,.i E,.i G,.i H,.b J,.l K]
noncomputable def ZgC (k:Nat) (a:LL) (c d e f g h j m n o p q r s t u v w x y:Int) (z:LL) (A C D E G H:Int) (J:Bool) (K:LL) (L M:Int):Option (LL):=F46.lp [0,0] 0 r0 k [.l a,.i c,.i d,.i e,.i f,.i g,.i h,.i j,.i m,.i n,.i o,.i p,.i q,.i r,.i s,.i t,.i u,.i v,.i w,.i x,.i y,.l z,.i A,.i C,.i D,.i E,.i G,.i H,.b J,.l K,.i L,.i M]
theorem Zjp (k:Nat) (c:LL) (g h i j l d m n o p q r s t u v w x y z:Int) (A:LL) (C D E G H J:Int) (K:Bool) (e:LL) (f b:Int):ZgC (k+1) c g h i j l d m n o p q r s t u v w x y z A C D E G H J K e f b =
 (if (cop .lss b f) then
 Zl e b hs10 fun (a:Qt20)=>
 (g81 c (iop .add .i64 d b) a.1 a.2.1 a.2.2.1 a.2.2.2.1 a.2.2.2.2.1 a.2.2.2.2.2.1 a.2.2.2.2.2.2.1 a.2.2.2.2.2.2.2.1 a.2.2.2.2.2.2.2.2.1 a.2.2.2.2.2.2.2.2.2.1 a.2.2.2.2.2.2.2.2.2.2).bind fun L=>
 if (cop .eql L.2 0) then
 ZgC k L.1 g h i j l d m n o p q r s t u v w x y z A C D E G H J K e f (iop .add .i64 b 1)
 else
 ZgC k c g h i j l d m n o p q r s t u v w x y z A C D E G H J K e f (iop .add .i64 b 1)
 else
 some (c)):=by kernel_rfl
theorem Zur (a:LL) (i j k b d l m n o p q r s t u v w e f g:Int) (x:LL) (y z A C D E:Int) (G:Bool) (c:LL):g46 a i j k b d l m n o p q r s t u v w e f g x y z A C D E G c =
 (if (cop .eql b 1) then
 ZgC Zw a i j k b d l m n o p q r s t u v w e f g x y z A C D E G c (List.length c:Int) 0
 else
 if (cop .eql b 2) then
 ZgC Zw a i j k b d l m n o p q r s t u v w e f g x y z A C D E G c (List.length c:Int) 0
 else
 if (cop .eql b 3) then
 ZgC Zw a i j k b d l m n o p q r s t u v w e f g x y z A C D E G c (List.length c:Int) 0
 else
 if (cop .eql b 5) then
 (g82 a d).bind fun h=>
 if (d4 (d8 h)) then
 if ((cop .eql h.2.1 e)&&((cop .eql h.2.2.1 f)&&((cop .eql h.2.2.2.1 g)&&true))) then
 some (h.1)
 else
 some (a)
 else
 some (a)
 else
 some (a)):=by kernel_rfl
noncomputable def F47:Fn:=⟨27,[4],[(3,[(1,.c (.int .i64)),(5,.c (.own true 62)),(10,.c (.int .i64)),(11,.c (.int .i64))])],[],0,[4],[],Tryz.f47,[.c (.slice 15),.c (.int .i64)],[.c (.own true 62)],[(43,F43.S)]⟩
theorem ZAW:F47.S.Ok Tryz.prog 47:=F47.ok Tryz.func47 (by kernel_rfl) ⟨ZuC,trivial⟩
noncomputable def g47 (a:LL) (b:Int):Option (LL):=F47.S.g [.l a,.i b]
noncomputable def ZgY (k:Nat) (a:Int) (b:LL) (c d:Int):Option (LL):=F47.lp [2] 0 r0 k [.i a,.l b,.i c,.i d]
theorem Zi4 (k:Nat) (c:Int) (b:LL) (d a:Int):ZgY (k+1) c b d a =
 (if (cop .lss a d) then
 ZA ((0:Int)≤a)<|
 ZA ((a:Int) < (List.length b:Int))<|
 Zl b a hs8 fun (e:Qt13)=>
 if (cop .eql e.2.2.2.2.2.2.2.2.2.2.2.1 c) then
 ZA ((0:Int)≤a)<|
 ZA ((a:Int) < (List.length b:Int))<|
 ZA ((0:Int)≤a)<|
 ZA ((a:Int) < (List.length b:Int))<|
 ZgY k c (ZE b (Int.toNat a) 11 [AV.val (.int .i64 0)]) d (iop .add .i64 a 1)
 else
 ZgY k c b d (iop .add .i64 a 1)
 else
 some (b)):=by kernel_rfl
theorem ZuJ (a:LL) (b:Int):g47 a b =
 ((g43 a).bind fun c=>
 ZgY Zw b c (List.length c:Int) 0):=by kernel_rfl
noncomputable def F16:Fn:=⟨112,[8,9,10,11,12],[],[],0,[],[(2,[(13,0)]),(13,[(13,0)]),(3,[(14,0)]),(7,[(14,0)]),(10,[(14,0)])],Tryz.f16,[.c (.int .i64),.c (.slice 15),.c (.slice 28),.agg hs0],[.c (.slice 15),.c (.slice 28),.c (.slice 74),.c (.slice 2),.c (.slice 4)],[(43,F43.S),(42,F42.S),(44,F44.S),(35,F35.S),(45,F45.S),(46,F46.S),(47,F47.S)]⟩
theorem Zz6:F16.S.Ok Tryz.prog 16:=F16.ok Tryz.func16 (by kernel_rfl) ⟨ZuC,⟨ZAg,⟨ZBy,⟨ZAk,⟨ZA6,⟨ZAH,⟨ZAW,trivial⟩⟩⟩⟩⟩⟩⟩
noncomputable def g16 (a:Int) (c d:LL) (e f h j k m n o p q r:Int) (s:Bool) (t u v w x y z A C D E G H J K L M N O P:Int) (Q:LL) (R T U V W X:Int) (Y:Bool) (Z aa ab ac:LL) (ad ae:Int) (af ag ah ai aj ak al am:LL) (an ao:Int) (ap aq ar aZ au av aw ax:LL) (ay:Bool) (az:Int) (a0 a1 a2 a3 a4 a5 a6 a7:LL):Option (LL×LL×LL×LL×LL):=F16.S.g [.i a,.l c,.l d,.i e,.i f,.i h,.i j,.i k,.i m,.i n,.i o,.i p,.i q,.i r,.b s,.i t,.i u,.i v,.i w,.i x,.i y,.i z,.i A,.i C,.i D,.i E,.i G,.i H,.i J,.i K,.i L,.i M,.i N,.i O,.i P,.l Q,.i R,.i T,.i U,.i V,.i W,.i X,.b Y,.l Z,.l aa,.l ab,.l ac,.i ad,.i ae,.l af,.l ag,.l ah,.l ai,.l aj,.l ak,.l al,.l am,.i an,.i ao,.l ap,.l aq,.l ar,.l aZ,.l au,.l av,.l aw,.l ax,.b ay,.i az,.l a0,.l a1,.l a2,.l a3,.l a4,.l a5,.l a6,.l a7]
theorem Zvl (n:Int) (s t:LL) (o u f p v g w c b d e:Int) (m:Bool) (x y z A C D E G H J K L M N O P Q R T U:Int) (V:LL) (W X Y Z aa ab:Int) (ac:Bool) (ad q ae af:LL) (ag ah:Int) (ai aj ak al am an ao ap:LL) (aq ar:Int) (aZ au av aw ax ay az a0:LL) (a1:Bool) (a2:Int) (a3 a4 a5 a6 a7 a8 a9 ba:LL):g16 n s t o u f p v g w c b d e m x y z A C D E G H J K L M N O P Q R T U V W X Y Z aa ab ac ad q ae af ag ah ai aj ak al am an ao ap aq ar aZ au av aw ax ay az a0 a1 a2 a3 a4 a5 a6 a7 a8 a9 ba =
 ((g43 s).bind fun i=>
 (g42 t).bind fun h=>
 (g44 o u f p v g w c b d e m x y z A C D E G H J K L M N O P Q R T U V W X Y Z aa ab ac ad q ae af ag ah ai aj ak al am an ao ap aq ar aZ au av aw ax ay az a0 a1 a2 a3 a4 a5 a6 a7 a8 a9 ba).bind fun bb=>
 if (!bb) then
 some (i,h,E0,E0,E0)
 else
 if (cop .neq o 2) then
 some (i,h,E0,E0,E0)
 else
 if (cop .neq p n) then
 some (i,h,E0,E0,E0)
 else
 if (cop .neq c n) then
 some (i,h,E0,E0,E0)
 else
 (g35 h c b d).bind fun j=>
 if (!j.2) then
 some (i,h,(E0++[[I 3,I 0,I 0,I f,I 0,I g,I 0,I c,I b,I d,I 0,AV.val (.bool false),I 0,I 0,I 0,I 0,I 0,I 0,I 0,I 0,I 0,I 0,I 0,I 0,I 0,I 0,I 0,I 0,I 0,I 0,I 0,I 0,AV.slice false 3 E0,I 0,I 0,I 0,I 0,I 0,I 0,AV.val (.bool false),AV.slice false 3 E0,AV.slice false 11 E0,AV.slice false 1 E0,AV.slice false 2 E0,I 0,I 0,AV.slice false 1 E0,AV.slice false 1 E0,AV.slice false 15 E0,AV.slice false 28 E0,AV.slice false 4 E0,AV.slice false 2 E0,AV.slice false 13 E0,AV.slice false 3 E0,I 0,I 0,AV.slice false 1 E0,AV.slice false 1 E0,AV.slice false 15 E0,AV.slice false 28 E0,AV.slice false 4 E0,AV.slice false 2 E0,AV.slice false 13 E0,AV.slice false 3 E0,AV.val (.bool false),I 0,AV.slice false 1 E0,AV.slice false 1 E0,AV.slice false 15 E0,AV.slice false 28 E0,AV.slice false 4 E0,AV.slice false 2 E0,AV.slice false 13 E0,AV.slice false 3 E0]]),E0,E0)
 else
 ZA ((0:Int)≤j.1)<|
 ZA ((j.1:Int) < (List.length h:Int))<|
 Zl h j.1 hs3 fun (a:Qt7)=>
 (g45 h j.1 (iop .add .i64 j.1 1)).bind fun k=>
 if (cop .eql e 0) then
 (g46 i a.1 a.2.1 a.2.2.1 a.2.2.2.1 a.2.2.2.2.1 a.2.2.2.2.2.1 a.2.2.2.2.2.2.1 a.2.2.2.2.2.2.2.1 a.2.2.2.2.2.2.2.2.1 a.2.2.2.2.2.2.2.2.2.1 a.2.2.2.2.2.2.2.2.2.2.1 a.2.2.2.2.2.2.2.2.2.2.2.1 (d4 (d8 a)).1 (d4 (d8 a)).2.1 (d2 (d4 (d8 a))).1 (d2 (d4 (d8 a))).2.1 (d16 a).1 (d16 a).2.1 (d2 (d16 a)).1 (d2 (d16 a)).2.1 (d4 (d16 a)).1 (d4 (d16 a)).2.1 (d2 (d4 (d16 a))).1 (d2 (d4 (d16 a))).2.1 (d8 (d16 a)).1 (d8 (d16 a)).2.1 (d2 (d8 (d16 a))).1 (d2 (d8 (d16 a))).2 q).bind fun l=>
 (g47 l b).bind fun r=>
 if (!m) then
 if (cop .neq e 4) then
 some (r,k,(E0++[[I 3,I 0,I 0,I f,I 0,I g,I 0,I c,I b,I d,I 0,AV.val (.bool false),I 0,I 0,I 0,I 0,I 0,I 0,I 0,I 0,I 0,I 0,I 0,I 0,I 0,I 0,I 0,I 0,I 0,I 0,I 0,I 0,AV.slice false 3 E0,I 0,I 0,I 0,I 0,I 0,I 0,AV.val (.bool false),AV.slice false 3 E0,AV.slice false 11 E0,AV.slice false 1 E0,AV.slice false 2 E0,I 0,I 0,AV.slice false 1 E0,AV.slice false 1 E0,AV.slice false 15 E0,AV.slice false 28 E0,AV.slice false 4 E0,AV.slice false 2 E0,AV.slice false 13 E0,AV.slice false 3 E0,I 0,I 0,AV.slice false 1 E0,AV.slice false 1 E0,AV.slice false 15 E0,AV.slice false 28 E0,AV.slice false 4 E0,AV.slice false 2 E0,AV.slice false 13 E0,AV.slice false 3 E0,AV.val (.bool false),I 0,AV.slice false 1 E0,AV.slice false 1 E0,AV.slice false 15 E0,AV.slice false 28 E0,AV.slice false 4 E0,AV.slice false 2 E0,AV.slice false 13 E0,AV.slice false 3 E0]]),(E0++[[AV.val (.int .i64 b),AV.val (.int .i64 e)]]),(E0++[[AV.val (.int .i64 c),AV.val (.int .i64 b),AV.val (.int .i64 d),AV.val (.bool true)]]))
 else
 some (r,k,(E0++[[I 3,I 0,I 0,I f,I 0,I g,I 0,I c,I b,I d,I 0,AV.val (.bool false),I 0,I 0,I 0,I 0,I 0,I 0,I 0,I 0,I 0,I 0,I 0,I 0,I 0,I 0,I 0,I 0,I 0,I 0,I 0,I 0,AV.slice false 3 E0,I 0,I 0,I 0,I 0,I 0,I 0,AV.val (.bool false),AV.slice false 3 E0,AV.slice false 11 E0,AV.slice false 1 E0,AV.slice false 2 E0,I 0,I 0,AV.slice false 1 E0,AV.slice false 1 E0,AV.slice false 15 E0,AV.slice false 28 E0,AV.slice false 4 E0,AV.slice false 2 E0,AV.slice false 13 E0,AV.slice false 3 E0,I 0,I 0,AV.slice false 1 E0,AV.slice false 1 E0,AV.slice false 15 E0,AV.slice false 28 E0,AV.slice false 4 E0,AV.slice false 2 E0,AV.slice false 13 E0,AV.slice false 3 E0,AV.val (.bool false),I 0,AV.slice false 1 E0,AV.slice false 1 E0,AV.slice false 15 E0,AV.slice false 28 E0,AV.slice false 4 E0,AV.slice false 2 E0,AV.slice false 13 E0,AV.slice false 3 E0]]),(E0++[[AV.val (.int .i64 b),AV.val (.int .i64 e)]]),E0)
 else
 some (r,k,(E0++[[I 3,I 0,I 0,I f,I 0,I g,I 0,I c,I b,I d,I 0,AV.val (.bool false),I 0,I 0,I 0,I 0,I 0,I 0,I 0,I 0,I 0,I 0,I 0,I 0,I 0,I 0,I 0,I 0,I 0,I 0,I 0,I 0,AV.slice false 3 E0,I 0,I 0,I 0,I 0,I 0,I 0,AV.val (.bool false),AV.slice false 3 E0,AV.slice false 11 E0,AV.slice false 1 E0,AV.slice false 2 E0,I 0,I 0,AV.slice false 1 E0,AV.slice false 1 E0,AV.slice false 15 E0,AV.slice false 28 E0,AV.slice false 4 E0,AV.slice false 2 E0,AV.slice false 13 E0,AV.slice false 3 E0,I 0,I 0,AV.slice false 1 E0,AV.slice false 1 E0,AV.slice false 15 E0,AV.slice false 28 E0,AV.slice false 4 E0,AV.slice false 2 E0,AV.slice false 13 E0,AV.slice false 3 E0,AV.val (.bool false),I 0,AV.slice false 1 E0,AV.slice false 1 E0,AV.slice false 15 E0,AV.slice false 28 E0,AV.slice false 4 E0,AV.slice false 2 E0,AV.slice false 13 E0,AV.slice false 3 E0]]),(E0++[[AV.val (.int .i64 b),AV.val (.int .i64 e)]]),E0)
 else
 (g47 i b).bind fun l=>
 if (!m) then
 if (cop .neq e 4) then
 some (l,k,(E0++[[I 3,I 0,I 0,I f,I 0,I g,I 0,I c,I b,I d,I 0,AV.val (.bool false),I 0,I 0,I 0,I 0,I 0,I 0,I 0,I 0,I 0,I 0,I 0,I 0,I 0,I 0,I 0,I 0,I 0,I 0,I 0,I 0,AV.slice false 3 E0,I 0,I 0,I 0,I 0,I 0,I 0,AV.val (.bool false),AV.slice false 3 E0,AV.slice false 11 E0,AV.slice false 1 E0,AV.slice false 2 E0,I 0,I 0,AV.slice false 1 E0,AV.slice false 1 E0,AV.slice false 15 E0,AV.slice false 28 E0,AV.slice false 4 E0,AV.slice false 2 E0,AV.slice false 13 E0,AV.slice false 3 E0,I 0,I 0,AV.slice false 1 E0,AV.slice false 1 E0,AV.slice false 15 E0,AV.slice false 28 E0,AV.slice false 4 E0,AV.slice false 2 E0,AV.slice false 13 E0,AV.slice false 3 E0,AV.val (.bool false),I 0,AV.slice false 1 E0,AV.slice false 1 E0,AV.slice false 15 E0,AV.slice false 28 E0,AV.slice false 4 E0,AV.slice false 2 E0,AV.slice false 13 E0,AV.slice false 3 E0]]),(E0++[[AV.val (.int .i64 b),AV.val (.int .i64 e)]]),(E0++[[AV.val (.int .i64 c),AV.val (.int .i64 b),AV.val (.int .i64 d),AV.val (.bool true)]]))
 else
 some (l,k,(E0++[[I 3,I 0,I 0,I f,I 0,I g,I 0,I c,I b,I d,I 0,AV.val (.bool false),I 0,I 0,I 0,I 0,I 0,I 0,I 0,I 0,I 0,I 0,I 0,I 0,I 0,I 0,I 0,I 0,I 0,I 0,I 0,I 0,AV.slice false 3 E0,I 0,I 0,I 0,I 0,I 0,I 0,AV.val (.bool false),AV.slice false 3 E0,AV.slice false 11 E0,AV.slice false 1 E0,AV.slice false 2 E0,I 0,I 0,AV.slice false 1 E0,AV.slice false 1 E0,AV.slice false 15 E0,AV.slice false 28 E0,AV.slice false 4 E0,AV.slice false 2 E0,AV.slice false 13 E0,AV.slice false 3 E0,I 0,I 0,AV.slice false 1 E0,AV.slice false 1 E0,AV.slice false 15 E0,AV.slice false 28 E0,AV.slice false 4 E0,AV.slice false 2 E0,AV.slice false 13 E0,AV.slice false 3 E0,AV.val (.bool false),I 0,AV.slice false 1 E0,AV.slice false 1 E0,AV.slice false 15 E0,AV.slice false 28 E0,AV.slice false 4 E0,AV.slice false 2 E0,AV.slice false 13 E0,AV.slice false 3 E0]]),(E0++[[AV.val (.int .i64 b),AV.val (.int .i64 e)]]),E0)
 else
 some (l,k,(E0++[[I 3,I 0,I 0,I f,I 0,I g,I 0,I c,I b,I d,I 0,AV.val (.bool false),I 0,I 0,I 0,I 0,I 0,I 0,I 0,I 0,I 0,I 0,I 0,I 0,I 0,I 0,I 0,I 0,I 0,I 0,I 0,I 0,AV.slice false 3 E0,I 0,I 0,I 0,I 0,I 0,I 0,AV.val (.bool false),AV.slice false 3 E0,AV.slice false 11 E0,AV.slice false 1 E0,AV.slice false 2 E0,I 0,I 0,AV.slice false 1 E0,AV.slice false 1 E0,AV.slice false 15 E0,AV.slice false 28 E0,AV.slice false 4 E0,AV.slice false 2 E0,AV.slice false 13 E0,AV.slice false 3 E0,I 0,I 0,AV.slice false 1 E0,AV.slice false 1 E0,AV.slice false 15 E0,AV.slice false 28 E0,AV.slice false 4 E0,AV.slice false 2 E0,AV.slice false 13 E0,AV.slice false 3 E0,AV.val (.bool false),I 0,AV.slice false 1 E0,AV.slice false 1 E0,AV.slice false 15 E0,AV.slice false 28 E0,AV.slice false 4 E0,AV.slice false 2 E0,AV.slice false 13 E0,AV.slice false 3 E0]]),(E0++[[AV.val (.int .i64 b),AV.val (.int .i64 e)]]),E0)):=by kernel_rfl
noncomputable def F61:Fn:=⟨20,[4],[(2,[(0,.c (.slice 28)),(3,.box [.int .i64,.int .i64,.int .i64]),(5,.c (.int .i64))])],[],0,[],[],Tryz.f61,[.c (.slice 28),.agg [.int .i64,.int .i64,.int .i64]],[.c (.int .i64)],[]⟩
theorem ZBz:F61.S.Ok Tryz.prog 61:=F61.ok Tryz.func61 (by kernel_rfl) trivial
noncomputable def g61 (a:LL) (b c d:Int):Option (Int):=F61.S.g [.l a,.i b,.i c,.i d]
noncomputable def Zkx (k:Nat) (a:LL) (b c d e:Int):Option (Int):=F61.lp [0] 0 r0 k [.l a,.i b,.i c,.i d,.i e]
theorem ZjG (k:Nat) (b:LL) (c d e a:Int):Zkx (k+1) b c d e a =
 (if (cop .lss a (List.length b:Int)) then
 Zl b a hs3 fun (f:Qt7)=>
 if ((cop .eql f.1 c)&&((cop .eql f.2.1 d)&&((cop .eql f.2.2.1 e)&&true))) then
 some (a)
 else
 Zkx k b c d e (iop .add .i64 a 1)
 else
 some ((-1))):=by kernel_rfl
theorem ZuQ (a:LL) (b c d:Int):g61 a b c d =
 (Zkx Zw a b c d 0):=by kernel_rfl
noncomputable def F56:Fn:=⟨5,[2],[],[],0,[],[],Tryz.f56,[.c (.slice 3)],[.c (.own false 25)],[]⟩
theorem ZzP:F56.S.Ok Tryz.prog 56:=F56.ok Tryz.func56 (by kernel_rfl) trivial
noncomputable def g56 (a:LL):Option (LL):=F56.S.g [.l a]
theorem Zvz (a:LL):g56 a =
 (ZA (Jy E0 a 24)<|
 some (a)):=by kernel_rfl
noncomputable def F26:Fn:=⟨8,[2],[],[],0,[],[],Tryz.f26,[.agg hs10],[.agg hs10],[(56,F56.S)]⟩
theorem ZpE:F26.S.Ok Tryz.prog 26:=F26.ok Tryz.func26 (by kernel_rfl) ⟨ZzP,trivial⟩
noncomputable def g26 (a c d:Int) (e:LL) (f h j k m n:Int) (o:Bool):Option (Qt20):=F26.S.g [.i a,.i c,.i d,.l e,.i f,.i h,.i j,.i k,.i m,.i n,.b o]
theorem ZuU (a b c:Int) (d:LL) (e f g h i j:Int) (k:Bool):g26 a b c d e f g h i j k =
 ((g56 d).bind fun l=>
 some (a,b,c,l,e,f,g,h,i,j,k)):=by kernel_rfl
noncomputable def F48:Fn:=⟨8,[2],[],[],0,[],[],Tryz.f48,[.agg hs3],[.agg hs3],[(26,F26.S)]⟩
theorem ZAD:F48.S.Ok Tryz.prog 48:=F48.ok Tryz.func48 (by kernel_rfl) ⟨ZpE,trivial⟩
noncomputable def g48 (a c d e f h j k m n o p q r s t u v w x:Int) (y:LL) (z A C D E G:Int) (H:Bool):Option (Qt7):=F48.S.g [.i a,.i c,.i d,.i e,.i f,.i h,.i j,.i k,.i m,.i n,.i o,.i p,.i q,.i r,.i s,.i t,.i u,.i v,.i w,.i x,.l y,.i z,.i A,.i C,.i D,.i E,.i G,.b H]
theorem ZvP (b c d e f g h i j k l m n o p q r s t u:Int) (v:LL) (w x y z A C:Int) (D:Bool):g48 b c d e f g h i j k l m n o p q r s t u v w x y z A C D =
 ((g26 s t u v w x y z A C D).bind fun a=>
 some (b,c,d,e,f,g,h,i,j,k,l,m,n,o,p,q,r,a.1,a.2.1,a.2.2.1,a.2.2.2.1,a.2.2.2.2.1,a.2.2.2.2.2.1,a.2.2.2.2.2.2.1,a.2.2.2.2.2.2.2.1,a.2.2.2.2.2.2.2.2.1,a.2.2.2.2.2.2.2.2.2.1,a.2.2.2.2.2.2.2.2.2.2)):=by kernel_rfl
noncomputable def F17:Fn:=⟨20,[2],[(3,[(0,.c (.slice 28)),(3,.c (.own false 35)),(4,.c (.int .i64))])],[],0,[],[],Tryz.f17,[.c (.slice 28)],[.c (.own false 35)],[(48,F48.S)]⟩
theorem ZAa:F17.S.Ok Tryz.prog 17:=F17.ok Tryz.func17 (by kernel_rfl) ⟨ZAD,trivial⟩
noncomputable def g17 (a:LL):Option (LL):=F17.S.g [.l a]
noncomputable def Zku (k:Nat) (a b:LL) (c:Int):Option (LL):=F17.lp [0] 0 r0 k [.l a,.l b,.i c]
theorem ZjX (k:Nat) (c d:LL) (e:Int):Zku (k+1) c d e =
 (if (cop .lss e (List.length c:Int)) then
 Zl c e hs3 fun (b:Qt7)=>
 (g48 b.1 b.2.1 b.2.2.1 b.2.2.2.1 b.2.2.2.2.1 b.2.2.2.2.2.1 b.2.2.2.2.2.2.1 b.2.2.2.2.2.2.2.1 b.2.2.2.2.2.2.2.2.1 b.2.2.2.2.2.2.2.2.2.1 b.2.2.2.2.2.2.2.2.2.2.1 b.2.2.2.2.2.2.2.2.2.2.2.1 (d4 (d8 b)).1 (d4 (d8 b)).2.1 (d2 (d4 (d8 b))).1 (d2 (d4 (d8 b))).2.1 (d16 b).1 (d16 b).2.1 (d2 (d16 b)).1 (d2 (d16 b)).2.1 (d4 (d16 b)).1 (d4 (d16 b)).2.1 (d2 (d4 (d16 b))).1 (d2 (d4 (d16 b))).2.1 (d8 (d16 b)).1 (d8 (d16 b)).2.1 (d2 (d8 (d16 b))).1 (d2 (d8 (d16 b))).2).bind fun a=>
 ZA (Jy d (E0++[[I a.1,I a.2.1,I a.2.2.1,I a.2.2.2.1,I a.2.2.2.2.1,I a.2.2.2.2.2.1,I a.2.2.2.2.2.2.1,I a.2.2.2.2.2.2.2.1,I a.2.2.2.2.2.2.2.2.1,I a.2.2.2.2.2.2.2.2.2.1,I a.2.2.2.2.2.2.2.2.2.2.1,I a.2.2.2.2.2.2.2.2.2.2.2.1,AV.val (.int .i64 (d4 (d8 a)).1),AV.val (.int .i64 (d4 (d8 a)).2.1),AV.val (.int .i64 (d2 (d4 (d8 a))).1),AV.val (.int .i64 (d2 (d4 (d8 a))).2.1),AV.val (.int .i64 (d16 a).1),AV.val (.int .i64 (d16 a).2.1),AV.val (.int .i64 (d2 (d16 a)).1),AV.val (.int .i64 (d2 (d16 a)).2.1),AV.slice false 3 (d4 (d16 a)).1,AV.val (.int .i64 (d4 (d16 a)).2.1),AV.val (.int .i64 (d2 (d4 (d16 a))).1),AV.val (.int .i64 (d2 (d4 (d16 a))).2.1),AV.val (.int .i64 (d8 (d16 a)).1),AV.val (.int .i64 (d8 (d16 a)).2.1),AV.val (.int .i64 (d2 (d8 (d16 a))).1),AV.val (.bool (d2 (d8 (d16 a))).2)]]) 240)<|
 Zku k c (d++(E0++[[I a.1,I a.2.1,I a.2.2.1,I a.2.2.2.1,I a.2.2.2.2.1,I a.2.2.2.2.2.1,I a.2.2.2.2.2.2.1,I a.2.2.2.2.2.2.2.1,I a.2.2.2.2.2.2.2.2.1,I a.2.2.2.2.2.2.2.2.2.1,I a.2.2.2.2.2.2.2.2.2.2.1,I a.2.2.2.2.2.2.2.2.2.2.2.1,AV.val (.int .i64 (d4 (d8 a)).1),AV.val (.int .i64 (d4 (d8 a)).2.1),AV.val (.int .i64 (d2 (d4 (d8 a))).1),AV.val (.int .i64 (d2 (d4 (d8 a))).2.1),AV.val (.int .i64 (d16 a).1),AV.val (.int .i64 (d16 a).2.1),AV.val (.int .i64 (d2 (d16 a)).1),AV.val (.int .i64 (d2 (d16 a)).2.1),AV.slice false 3 (d4 (d16 a)).1,AV.val (.int .i64 (d4 (d16 a)).2.1),AV.val (.int .i64 (d2 (d4 (d16 a))).1),AV.val (.int .i64 (d2 (d4 (d16 a))).2.1),AV.val (.int .i64 (d8 (d16 a)).1),AV.val (.int .i64 (d8 (d16 a)).2.1),AV.val (.int .i64 (d2 (d8 (d16 a))).1),AV.val (.bool (d2 (d8 (d16 a))).2)]])) (iop .add .i64 e 1)
 else
 some (d)):=by kernel_rfl
theorem Zvn (a:LL):g17 a =
 (Zku Zw a E0 0):=by kernel_rfl
noncomputable def F15:Fn:=⟨32,[2],[(3,[(0,.c (.slice 15)),(3,.c (.own true 62)),(4,.c (.int .i64))])],[],0,[2,3,30],[],Tryz.f15,[.c (.slice 15)],[.c (.own true 62)],[(26,F26.S)]⟩
theorem ZwR:F15.S.Ok Tryz.prog 15:=F15.ok Tryz.func15 (by kernel_rfl) ⟨ZpE,trivial⟩
noncomputable def g15 (a:LL):Option (LL):=F15.S.g [.l a]
noncomputable def Zkv (k:Nat) (a b:LL) (c:Int):Option (LL):=F15.lp [0] 0 r0 k [.l a,.l b,.i c]
theorem Zka (k:Nat) (c f:LL) (d:Int):Zkv (k+1) c f d =
 (if (cop .lss d (List.length c:Int)) then
 Zl c d hs8 fun (b:Qt13)=>
 (g26 b.1 b.2.1 b.2.2.1 b.2.2.2.1 b.2.2.2.2.1 b.2.2.2.2.2.1 b.2.2.2.2.2.2.1 b.2.2.2.2.2.2.2.1 b.2.2.2.2.2.2.2.2.1 b.2.2.2.2.2.2.2.2.2.1 b.2.2.2.2.2.2.2.2.2.2.1).bind fun a=>
 Zl c d hs8 fun (g:Qt13)=>
 Zl c d hs8 fun (e:Qt13)=>
 ZA (Jy f (E0++[[AV.val (.int .i64 a.1),AV.val (.int .i64 a.2.1),AV.val (.int .i64 a.2.2.1),AV.slice false 3 a.2.2.2.1,AV.val (.int .i64 a.2.2.2.2.1),AV.val (.int .i64 a.2.2.2.2.2.1),AV.val (.int .i64 a.2.2.2.2.2.2.1),AV.val (.int .i64 a.2.2.2.2.2.2.2.1),AV.val (.int .i64 a.2.2.2.2.2.2.2.2.1),AV.val (.int .i64 a.2.2.2.2.2.2.2.2.2.1),AV.val (.bool a.2.2.2.2.2.2.2.2.2.2),AV.val (.int .i64 g.2.2.2.2.2.2.2.2.2.2.2.1),AV.val (.int .i64 (d4 (d8 e)).1),AV.val (.int .i64 (d4 (d8 e)).2.1),AV.val (.int .i64 (d2 (d4 (d8 e))))]]) 136)<|
 Zkv k c (f++(E0++[[AV.val (.int .i64 a.1),AV.val (.int .i64 a.2.1),AV.val (.int .i64 a.2.2.1),AV.slice false 3 a.2.2.2.1,AV.val (.int .i64 a.2.2.2.2.1),AV.val (.int .i64 a.2.2.2.2.2.1),AV.val (.int .i64 a.2.2.2.2.2.2.1),AV.val (.int .i64 a.2.2.2.2.2.2.2.1),AV.val (.int .i64 a.2.2.2.2.2.2.2.2.1),AV.val (.int .i64 a.2.2.2.2.2.2.2.2.2.1),AV.val (.bool a.2.2.2.2.2.2.2.2.2.2),AV.val (.int .i64 g.2.2.2.2.2.2.2.2.2.2.2.1),AV.val (.int .i64 (d4 (d8 e)).1),AV.val (.int .i64 (d4 (d8 e)).2.1),AV.val (.int .i64 (d2 (d4 (d8 e))))]])) (iop .add .i64 d 1)
 else
 some (f)):=by kernel_rfl
theorem Ztl (a:LL):g15 a =
 (Zkv Zw a E0 0):=by kernel_rfl
noncomputable def Zw4:Fn:=⟨44,[6,7],[],[],0,[],[(7,[(8,0)])],Tryz.f107,[.c (.slice 15),.c (.int .i64),.agg hs10],[.c (.slice 15),.c (.int .i64)],[(93,F93.S),(151,ZsU.S),(13,F13.S),(15,F15.S),(26,F26.S)]⟩
theorem ZyC:Zw4.S.Ok Tryz.prog 107:=Zw4.ok Tryz.func107 (by kernel_rfl) ⟨ZsP,⟨Zt8,⟨Zs0,⟨ZwR,⟨ZpE,trivial⟩⟩⟩⟩⟩
noncomputable def Zzs (a:LL) (c d e f:Int) (h:LL) (j k m n o p:Int) (q:Bool):Option (LL×Int):=Zw4.S.g [.l a,.i c,.i d,.i e,.i f,.l h,.i j,.i k,.i m,.i n,.i o,.i p,.b q]
theorem ZrD (d:LL) (c e f g:Int) (h:LL) (i j k l m n:Int) (o:Bool):Zzs d c e f g h i j k l m n o =
 (if (cop .lss c 0) then
 some (E0,1)
 else
 if (cop .geq c (List.length d:Int)) then
 some (E0,1)
 else
 (g93 e f g h i j k l m n o).bind fun q=>
 if (!q) then
 some (E0,1)
 else
 (ZsW d e f g).bind fun r=>
 if (cop .geq r 0) then
 some (E0,1)
 else
 Zl d c hs8 fun (a:Qt13)=>
 (g13 a.1 a.2.1 a.2.2.1 a.2.2.2.1 a.2.2.2.2.1 a.2.2.2.2.2.1 a.2.2.2.2.2.2.1 a.2.2.2.2.2.2.2.1 a.2.2.2.2.2.2.2.2.1 a.2.2.2.2.2.2.2.2.2.1 a.2.2.2.2.2.2.2.2.2.2.1 a.2.2.2.2.2.2.2.2.2.2.2.1 (d4 (d8 a)).1 (d4 (d8 a)).2.1 (d2 (d4 (d8 a)))).bind fun s=>
 if (!s) then
 some (E0,3)
 else
 (g15 d).bind fun p=>
 (g26 e f g h i j k l m n o).bind fun b=>
 ZA ((0:Int)≤c)<|
 ZA ((c:Int) < (List.length p:Int))<|
 ZA ((0:Int)≤c)<|
 ZA ((c:Int) < (List.length p:Int))<|
 some ((ZE p (Int.toNat c) 0 [AV.val (.int .i64 b.1),AV.val (.int .i64 b.2.1),AV.val (.int .i64 b.2.2.1),AV.slice false 3 b.2.2.2.1,AV.val (.int .i64 b.2.2.2.2.1),AV.val (.int .i64 b.2.2.2.2.2.1),AV.val (.int .i64 b.2.2.2.2.2.2.1),AV.val (.int .i64 b.2.2.2.2.2.2.2.1),AV.val (.int .i64 b.2.2.2.2.2.2.2.2.1),AV.val (.int .i64 b.2.2.2.2.2.2.2.2.2.1),AV.val (.bool b.2.2.2.2.2.2.2.2.2.2)]),0)):=by kernel_rfl
noncomputable def ZwH:Fn:=⟨44,[4,5,6],[],[],0,[],[(7,[(7,0)])],Tryz.f108,[.c (.slice 15),.c (.int .i64)],[.c (.own false 62),.agg hs10,.c (.bool)],[(13,F13.S),(15,F15.S)]⟩
theorem ZyA:ZwH.S.Ok Tryz.prog 108:=ZwH.ok Tryz.func108 (by kernel_rfl) ⟨Zs0,⟨ZwR,trivial⟩⟩
noncomputable def Zyg (a:LL) (b:Int):Option (Qt15):=ZwH.S.g [.l a,.i b]
theorem Zsp (e:LL) (a:Int):Zyg e a =
 (if (cop .lss a 0) then
 some (E0,0,0,0,E0,0,0,0,0,0,0,false,false)
 else
 if (cop .geq a (List.length e:Int)) then
 some (E0,0,0,0,E0,0,0,0,0,0,0,false,false)
 else
 Zl e a hs8 fun (b:Qt13)=>
 (g13 b.1 b.2.1 b.2.2.1 b.2.2.2.1 b.2.2.2.2.1 b.2.2.2.2.2.1 b.2.2.2.2.2.2.1 b.2.2.2.2.2.2.2.1 b.2.2.2.2.2.2.2.2.1 b.2.2.2.2.2.2.2.2.2.1 b.2.2.2.2.2.2.2.2.2.2.1 b.2.2.2.2.2.2.2.2.2.2.2.1 (d4 (d8 b)).1 (d4 (d8 b)).2.1 (d2 (d4 (d8 b)))).bind fun f=>
 if f then
 some (E0,0,0,0,E0,0,0,0,0,0,0,false,false)
 else
 (g15 e).bind fun d=>
 ZA ((0:Int)≤a)<|
 ZA ((a:Int) < (List.length d:Int))<|
 Zl d a hs8 fun (c:Qt13)=>
 ZA ((0:Int)≤a)<|
 ZA ((a:Int) < (List.length d:Int))<|
 ZA ((0:Int)≤a)<|
 ZA ((a:Int) < (List.length d:Int))<|
 ZA ((0:Int)≤a)<|
 ZA ((a:Int) < (List.length (ZE d (Int.toNat a) 0 [AV.val (.int .i64 0),AV.val (.int .i64 0),AV.val (.int .i64 0),AV.slice false 3 E0,AV.val (.int .i64 0),AV.val (.int .i64 0),AV.val (.int .i64 0),AV.val (.int .i64 0),AV.val (.int .i64 0),AV.val (.int .i64 0),AV.val (.bool false)]):Int))<|
 ZA ((0:Int)≤a)<|
 ZA ((a:Int) < (List.length (ZE d (Int.toNat a) 0 [AV.val (.int .i64 0),AV.val (.int .i64 0),AV.val (.int .i64 0),AV.slice false 3 E0,AV.val (.int .i64 0),AV.val (.int .i64 0),AV.val (.int .i64 0),AV.val (.int .i64 0),AV.val (.int .i64 0),AV.val (.int .i64 0),AV.val (.bool false)]):Int))<|
 some ((ZE (ZE d (Int.toNat a) 0 [AV.val (.int .i64 0),AV.val (.int .i64 0),AV.val (.int .i64 0),AV.slice false 3 E0,AV.val (.int .i64 0),AV.val (.int .i64 0),AV.val (.int .i64 0),AV.val (.int .i64 0),AV.val (.int .i64 0),AV.val (.int .i64 0),AV.val (.bool false)]) (Int.toNat a) 12 [AV.val (.int .i64 0),AV.val (.int .i64 0),AV.val (.int .i64 0)]),c.1,c.2.1,c.2.2.1,c.2.2.2.1,c.2.2.2.2.1,c.2.2.2.2.2.1,c.2.2.2.2.2.2.1,c.2.2.2.2.2.2.2.1,c.2.2.2.2.2.2.2.2.1,c.2.2.2.2.2.2.2.2.2.1,c.2.2.2.2.2.2.2.2.2.2.1,true)):=by kernel_rfl
noncomputable def F62:Fn:=⟨91,[6],[(7,[(0,.c (.slice 15)),(2,.c (.slice 11)),(7,.box [.int .i64,.int .i64,.int .i64,.int .i64,.int .i64,.int .i64,.int .i64,.int .i64,.int .i64,.int .i64,.int .i64,.int .i64]),(8,.c (.int .i64))])],[],0,[],[],Tryz.f62,[.c (.slice 15),.agg hs3,.c (.slice 11)],[.c (.slice 15)],[(107,Zw4.S),(13,F13.S),(108,ZwH.S)]⟩
theorem ZBS:F62.S.Ok Tryz.prog 62:=F62.ok Tryz.func62 (by kernel_rfl) ⟨ZyC,⟨Zs0,⟨ZyA,trivial⟩⟩⟩
noncomputable def g62 (a:LL) (c d e f h j k m n o p q r s t u v w x y:Int) (z:LL) (A C D E G H:Int) (J:Bool) (K:LL):Option (LL):=F62.S.g [.l a,.i c,.i d,.i e,.i f,.i h,.i j,.i k,.i m,.i n,.i o,.i p,.i q,.i r,.i s,.i t,.i u,.i v,.i w,.i x,.i y,.l z,.i A,.i C,.i D,.i E,.i G,.i H,.b J,.l K]
noncomputable def ZiT (k:Nat) (a b:LL) (c d e f g h j m n o p q r:Int):Option (LL):=F62.lp [0,0] 0 r0 k [.l a,.l b,.i c,.i d,.i e,.i f,.i g,.i h,.i j,.i m,.i n,.i o,.i p,.i q,.i r]
theorem Zjj (k:Nat) (b d:LL) (f g e h i j l m n o p q c:Int):ZiT (k+1) b d f g e h i j l m n o p q c =
 (if (cop .lss c (List.length d:Int)) then
 if (cop .lss e (List.length b:Int)) then
 Zl d c hs10 fun (a:Qt20)=>
 (Zzs b (iop .add .i64 e c) a.1 a.2.1 a.2.2.1 a.2.2.2.1 a.2.2.2.2.1 a.2.2.2.2.2.1 a.2.2.2.2.2.2.1 a.2.2.2.2.2.2.2.1 a.2.2.2.2.2.2.2.2.1 a.2.2.2.2.2.2.2.2.2.1 a.2.2.2.2.2.2.2.2.2.2).bind fun r=>
 if (cop .eql r.2 0) then
 ZiT k r.1 d f g e h i j l m n o p q (iop .add .i64 c 1)
 else
 ZiT k b d f g e h i j l m n o p q (iop .add .i64 c 1)
 else
 some (b)
 else
 some (b)):=by kernel_rfl
theorem ZtG (b:LL) (t u v d c e f g h i j k l m n w x q r s:Int) (y:LL) (z A C D E G:Int) (H:Bool) (o:LL):g62 b t u v d c e f g h i j k l m n w x q r s y z A C D E G H o =
 (if (cop .eql d 1) then
 ZiT Zw b o d c e f g h i j k l m n 0
 else
 if (cop .eql d 2) then
 ZiT Zw b o d c e f g h i j k l m n 0
 else
 if (cop .eql d 3) then
 ZiT Zw b o d c e f g h i j k l m n 0
 else
 if (cop .eql d 5) then
 if (cop .geq c 0) then
 if (cop .lss c (List.length b:Int)) then
 Zl b c hs8 fun (a:Qt13)=>
 (g13 a.1 a.2.1 a.2.2.1 a.2.2.2.1 a.2.2.2.2.1 a.2.2.2.2.2.1 a.2.2.2.2.2.2.1 a.2.2.2.2.2.2.2.1 a.2.2.2.2.2.2.2.2.1 a.2.2.2.2.2.2.2.2.2.1 a.2.2.2.2.2.2.2.2.2.2.1 a.2.2.2.2.2.2.2.2.2.2.2.1 (d4 (d8 a)).1 (d4 (d8 a)).2.1 (d2 (d4 (d8 a)))).bind fun J=>
 if (!J) then
 Zl b c hs8 fun (p:Qt13)=>
 if ((cop .eql p.1 q)&&((cop .eql p.2.1 r)&&((cop .eql p.2.2.1 s)&&true))) then
 (Zyg b c).bind fun K=>
 some (K.1)
 else
 some (b)
 else
 some (b)
 else
 some (b)
 else
 some (b)
 else
 some (b)):=by kernel_rfl
noncomputable def F63:Fn:=⟨27,[4],[(3,[(1,.c (.int .i64)),(5,.c (.own true 62)),(6,.c (.int .i64))])],[],0,[],[(7,[(5,0)])],Tryz.f63,[.c (.slice 15),.c (.int .i64)],[.c (.own false 62)],[(15,F15.S)]⟩
theorem ZBs:F63.S.Ok Tryz.prog 63:=F63.ok Tryz.func63 (by kernel_rfl) ⟨ZwR,trivial⟩
noncomputable def g63 (a:LL) (b:Int):Option (LL):=F63.S.g [.l a,.i b]
noncomputable def ZiI (k:Nat) (a:Int) (b:LL) (c:Int):Option (LL):=F63.lp [2] 0 r0 k [.i a,.l b,.i c]
theorem Zkf (k:Nat) (c:Int) (b:LL) (a:Int):ZiI (k+1) c b a =
 (if (cop .lss a (List.length b:Int)) then
 ZA ((0:Int)≤a)<|
 ZA ((a:Int) < (List.length b:Int))<|
 Zl b a hs8 fun (d:Qt13)=>
 if (cop .eql d.2.2.2.2.2.2.2.2.2.2.2.1 c) then
 ZA ((0:Int)≤a)<|
 ZA ((a:Int) < (List.length b:Int))<|
 ZA ((0:Int)≤a)<|
 ZA ((a:Int) < (List.length b:Int))<|
 ZiI k c (ZE b (Int.toNat a) 11 [AV.val (.int .i64 0)]) (iop .add .i64 a 1)
 else
 ZiI k c b (iop .add .i64 a 1)
 else
 some (b)):=by kernel_rfl
theorem ZvK (a:LL) (b:Int):g63 a b =
 ((g15 a).bind fun c=>
 ZiI Zw b c 0):=by kernel_rfl
noncomputable def F31:Fn:=⟨108,[8,9,10,11,12],[],[],0,[],[],Tryz.f31,[.c (.int .i64),.c (.slice 15),.c (.slice 28),.agg hs0],[.c (.slice 15),.c (.slice 28),.c (.slice 74),.c (.slice 2),.c (.slice 4)],[(60,F60.S),(61,F61.S),(17,F17.S),(62,F62.S),(63,F63.S)]⟩
theorem ZBP:F31.S.Ok Tryz.prog 31:=F31.ok Tryz.func31 (by kernel_rfl) ⟨ZBq,⟨ZBz,⟨ZAa,⟨ZBS,⟨ZBs,trivial⟩⟩⟩⟩⟩
noncomputable def g31 (a:Int) (c d:LL) (e f h j k m n o p q r:Int) (s:Bool) (t u v w x y z A C D E G H J K L M N O P:Int) (Q:LL) (R T U V W X:Int) (Y:Bool) (Z aa ab ac:LL) (ad ae:Int) (af ag ah ai aj ak al am:LL) (an ao:Int) (ap aq ar aZ au av aw ax:LL) (ay:Bool) (az:Int) (a0 a1 a2 a3 a4 a5 a6 a7:LL):Option (LL×LL×LL×LL×LL):=F31.S.g [.i a,.l c,.l d,.i e,.i f,.i h,.i j,.i k,.i m,.i n,.i o,.i p,.i q,.i r,.b s,.i t,.i u,.i v,.i w,.i x,.i y,.i z,.i A,.i C,.i D,.i E,.i G,.i H,.i J,.i K,.i L,.i M,.i N,.i O,.i P,.l Q,.i R,.i T,.i U,.i V,.i W,.i X,.b Y,.l Z,.l aa,.l ab,.l ac,.i ad,.i ae,.l af,.l ag,.l ah,.l ai,.l aj,.l ak,.l al,.l am,.i an,.i ao,.l ap,.l aq,.l ar,.l aZ,.l au,.l av,.l aw,.l ax,.b ay,.i az,.l a0,.l a1,.l a2,.l a3,.l a4,.l a5,.l a6,.l a7]
theorem Zu4 (o:Int) (i d:LL) (p t g q u h v c b e f:Int) (n:Bool) (w x y z A C D E G H J K L M N O P Q R T:Int) (U:LL) (V W X Y Z aa:Int) (ab:Bool) (ac r ad ae:LL) (af ag:Int) (ah ai aj ak al am an ao:LL) (ap aq:Int) (ar aZ au av aw ax ay az:LL) (a0:Bool) (a1:Int) (a2 a3 a4 a5 a6 a7 a8 a9:LL):g31 o i d p t g q u h v c b e f n w x y z A C D E G H J K L M N O P Q R T U V W X Y Z aa ab ac r ad ae af ag ah ai aj ak al am an ao ap aq ar aZ au av aw ax ay az a0 a1 a2 a3 a4 a5 a6 a7 a8 a9 =
 ((g60 p t g q u h v c b e f n w x y z A C D E G H J K L M N O P Q R T U V W X Y Z aa ab ac r ad ae af ag ah ai aj ak al am an ao ap aq ar aZ au av aw ax ay az a0 a1 a2 a3 a4 a5 a6 a7 a8 a9).bind fun ba=>
 if (!ba) then
 some (i,d,E0,E0,E0)
 else
 if (cop .neq p 2) then
 some (i,d,E0,E0,E0)
 else
 if (cop .neq q o) then
 some (i,d,E0,E0,E0)
 else
 if (cop .neq c o) then
 some (i,d,E0,E0,E0)
 else
 (g61 d c b e).bind fun j=>
 if (cop .lss j 0) then
 some (i,d,(E0++[[I 3,I 0,I 0,I g,I 0,I h,I 0,I c,I b,I e,I 0,AV.val (.bool false),I 0,I 0,I 0,I 0,I 0,I 0,I 0,I 0,I 0,I 0,I 0,I 0,I 0,I 0,I 0,I 0,I 0,I 0,I 0,I 0,AV.slice false 3 E0,I 0,I 0,I 0,I 0,I 0,I 0,AV.val (.bool false),AV.slice false 3 E0,AV.slice false 11 E0,AV.slice false 1 E0,AV.slice false 2 E0,I 0,I 0,AV.slice false 1 E0,AV.slice false 1 E0,AV.slice false 15 E0,AV.slice false 28 E0,AV.slice false 4 E0,AV.slice false 2 E0,AV.slice false 13 E0,AV.slice false 3 E0,I 0,I 0,AV.slice false 1 E0,AV.slice false 1 E0,AV.slice false 15 E0,AV.slice false 28 E0,AV.slice false 4 E0,AV.slice false 2 E0,AV.slice false 13 E0,AV.slice false 3 E0,AV.val (.bool false),I 0,AV.slice false 1 E0,AV.slice false 1 E0,AV.slice false 15 E0,AV.slice false 28 E0,AV.slice false 4 E0,AV.slice false 2 E0,AV.slice false 13 E0,AV.slice false 3 E0]]),E0,E0)
 else
 Zl d j hs3 fun (a:Qt7)=>
 ZA ((0:Int)≤j)<|
 ZA ((j:Int)≤(List.length d:Int))<|
 (g17 (List.take (Int.toNat j) d)).bind fun k=>
 ZA ((0:Int)≤(iop .add .i64 j 1))<|
 ZA (((iop .add .i64 j 1):Int)≤(List.length d:Int))<|
 (g17 (List.drop (Int.toNat (iop .add .i64 j 1)) d)).bind fun l=>
 ZA (Jy k l 240)<|
 if (cop .eql f 0) then
 (g62 i a.1 a.2.1 a.2.2.1 a.2.2.2.1 a.2.2.2.2.1 a.2.2.2.2.2.1 a.2.2.2.2.2.2.1 a.2.2.2.2.2.2.2.1 a.2.2.2.2.2.2.2.2.1 a.2.2.2.2.2.2.2.2.2.1 a.2.2.2.2.2.2.2.2.2.2.1 a.2.2.2.2.2.2.2.2.2.2.2.1 (d4 (d8 a)).1 (d4 (d8 a)).2.1 (d2 (d4 (d8 a))).1 (d2 (d4 (d8 a))).2.1 (d16 a).1 (d16 a).2.1 (d2 (d16 a)).1 (d2 (d16 a)).2.1 (d4 (d16 a)).1 (d4 (d16 a)).2.1 (d2 (d4 (d16 a))).1 (d2 (d4 (d16 a))).2.1 (d8 (d16 a)).1 (d8 (d16 a)).2.1 (d2 (d8 (d16 a))).1 (d2 (d8 (d16 a))).2 r).bind fun m=>
 (g63 m b).bind fun s=>
 if (!n) then
 if (cop .neq f 4) then
 some (s,(k++l),(E0++[[I 3,I 0,I 0,I g,I 0,I h,I 0,I c,I b,I e,I 0,AV.val (.bool false),I 0,I 0,I 0,I 0,I 0,I 0,I 0,I 0,I 0,I 0,I 0,I 0,I 0,I 0,I 0,I 0,I 0,I 0,I 0,I 0,AV.slice false 3 E0,I 0,I 0,I 0,I 0,I 0,I 0,AV.val (.bool false),AV.slice false 3 E0,AV.slice false 11 E0,AV.slice false 1 E0,AV.slice false 2 E0,I 0,I 0,AV.slice false 1 E0,AV.slice false 1 E0,AV.slice false 15 E0,AV.slice false 28 E0,AV.slice false 4 E0,AV.slice false 2 E0,AV.slice false 13 E0,AV.slice false 3 E0,I 0,I 0,AV.slice false 1 E0,AV.slice false 1 E0,AV.slice false 15 E0,AV.slice false 28 E0,AV.slice false 4 E0,AV.slice false 2 E0,AV.slice false 13 E0,AV.slice false 3 E0,AV.val (.bool false),I 0,AV.slice false 1 E0,AV.slice false 1 E0,AV.slice false 15 E0,AV.slice false 28 E0,AV.slice false 4 E0,AV.slice false 2 E0,AV.slice false 13 E0,AV.slice false 3 E0]]),(E0++[[AV.val (.int .i64 b),AV.val (.int .i64 f)]]),(E0++[[AV.val (.int .i64 c),AV.val (.int .i64 b),AV.val (.int .i64 e),AV.val (.bool true)]]))
 else
 some (s,(k++l),(E0++[[I 3,I 0,I 0,I g,I 0,I h,I 0,I c,I b,I e,I 0,AV.val (.bool false),I 0,I 0,I 0,I 0,I 0,I 0,I 0,I 0,I 0,I 0,I 0,I 0,I 0,I 0,I 0,I 0,I 0,I 0,I 0,I 0,AV.slice false 3 E0,I 0,I 0,I 0,I 0,I 0,I 0,AV.val (.bool false),AV.slice false 3 E0,AV.slice false 11 E0,AV.slice false 1 E0,AV.slice false 2 E0,I 0,I 0,AV.slice false 1 E0,AV.slice false 1 E0,AV.slice false 15 E0,AV.slice false 28 E0,AV.slice false 4 E0,AV.slice false 2 E0,AV.slice false 13 E0,AV.slice false 3 E0,I 0,I 0,AV.slice false 1 E0,AV.slice false 1 E0,AV.slice false 15 E0,AV.slice false 28 E0,AV.slice false 4 E0,AV.slice false 2 E0,AV.slice false 13 E0,AV.slice false 3 E0,AV.val (.bool false),I 0,AV.slice false 1 E0,AV.slice false 1 E0,AV.slice false 15 E0,AV.slice false 28 E0,AV.slice false 4 E0,AV.slice false 2 E0,AV.slice false 13 E0,AV.slice false 3 E0]]),(E0++[[AV.val (.int .i64 b),AV.val (.int .i64 f)]]),E0)
 else
 some (s,(k++l),(E0++[[I 3,I 0,I 0,I g,I 0,I h,I 0,I c,I b,I e,I 0,AV.val (.bool false),I 0,I 0,I 0,I 0,I 0,I 0,I 0,I 0,I 0,I 0,I 0,I 0,I 0,I 0,I 0,I 0,I 0,I 0,I 0,I 0,AV.slice false 3 E0,I 0,I 0,I 0,I 0,I 0,I 0,AV.val (.bool false),AV.slice false 3 E0,AV.slice false 11 E0,AV.slice false 1 E0,AV.slice false 2 E0,I 0,I 0,AV.slice false 1 E0,AV.slice false 1 E0,AV.slice false 15 E0,AV.slice false 28 E0,AV.slice false 4 E0,AV.slice false 2 E0,AV.slice false 13 E0,AV.slice false 3 E0,I 0,I 0,AV.slice false 1 E0,AV.slice false 1 E0,AV.slice false 15 E0,AV.slice false 28 E0,AV.slice false 4 E0,AV.slice false 2 E0,AV.slice false 13 E0,AV.slice false 3 E0,AV.val (.bool false),I 0,AV.slice false 1 E0,AV.slice false 1 E0,AV.slice false 15 E0,AV.slice false 28 E0,AV.slice false 4 E0,AV.slice false 2 E0,AV.slice false 13 E0,AV.slice false 3 E0]]),(E0++[[AV.val (.int .i64 b),AV.val (.int .i64 f)]]),E0)
 else
 (g63 i b).bind fun m=>
 if (!n) then
 if (cop .neq f 4) then
 some (m,(k++l),(E0++[[I 3,I 0,I 0,I g,I 0,I h,I 0,I c,I b,I e,I 0,AV.val (.bool false),I 0,I 0,I 0,I 0,I 0,I 0,I 0,I 0,I 0,I 0,I 0,I 0,I 0,I 0,I 0,I 0,I 0,I 0,I 0,I 0,AV.slice false 3 E0,I 0,I 0,I 0,I 0,I 0,I 0,AV.val (.bool false),AV.slice false 3 E0,AV.slice false 11 E0,AV.slice false 1 E0,AV.slice false 2 E0,I 0,I 0,AV.slice false 1 E0,AV.slice false 1 E0,AV.slice false 15 E0,AV.slice false 28 E0,AV.slice false 4 E0,AV.slice false 2 E0,AV.slice false 13 E0,AV.slice false 3 E0,I 0,I 0,AV.slice false 1 E0,AV.slice false 1 E0,AV.slice false 15 E0,AV.slice false 28 E0,AV.slice false 4 E0,AV.slice false 2 E0,AV.slice false 13 E0,AV.slice false 3 E0,AV.val (.bool false),I 0,AV.slice false 1 E0,AV.slice false 1 E0,AV.slice false 15 E0,AV.slice false 28 E0,AV.slice false 4 E0,AV.slice false 2 E0,AV.slice false 13 E0,AV.slice false 3 E0]]),(E0++[[AV.val (.int .i64 b),AV.val (.int .i64 f)]]),(E0++[[AV.val (.int .i64 c),AV.val (.int .i64 b),AV.val (.int .i64 e),AV.val (.bool true)]]))
 else
 some (m,(k++l),(E0++[[I 3,I 0,I 0,I g,I 0,I h,I 0,I c,I b,I e,I 0,AV.val (.bool false),I 0,I 0,I 0,I 0,I 0,I 0,I 0,I 0,I 0,I 0,I 0,I 0,I 0,I 0,I 0,I 0,I 0,I 0,I 0,I 0,AV.slice false 3 E0,I 0,I 0,I 0,I 0,I 0,I 0,AV.val (.bool false),AV.slice false 3 E0,AV.slice false 11 E0,AV.slice false 1 E0,AV.slice false 2 E0,I 0,I 0,AV.slice false 1 E0,AV.slice false 1 E0,AV.slice false 15 E0,AV.slice false 28 E0,AV.slice false 4 E0,AV.slice false 2 E0,AV.slice false 13 E0,AV.slice false 3 E0,I 0,I 0,AV.slice false 1 E0,AV.slice false 1 E0,AV.slice false 15 E0,AV.slice false 28 E0,AV.slice false 4 E0,AV.slice false 2 E0,AV.slice false 13 E0,AV.slice false 3 E0,AV.val (.bool false),I 0,AV.slice false 1 E0,AV.slice false 1 E0,AV.slice false 15 E0,AV.slice false 28 E0,AV.slice false 4 E0,AV.slice false 2 E0,AV.slice false 13 E0,AV.slice false 3 E0]]),(E0++[[AV.val (.int .i64 b),AV.val (.int .i64 f)]]),E0)
 else
 some (m,(k++l),(E0++[[I 3,I 0,I 0,I g,I 0,I h,I 0,I c,I b,I e,I 0,AV.val (.bool false),I 0,I 0,I 0,I 0,I 0,I 0,I 0,I 0,I 0,I 0,I 0,I 0,I 0,I 0,I 0,I 0,I 0,I 0,I 0,I 0,AV.slice false 3 E0,I 0,I 0,I 0,I 0,I 0,I 0,AV.val (.bool false),AV.slice false 3 E0,AV.slice false 11 E0,AV.slice false 1 E0,AV.slice false 2 E0,I 0,I 0,AV.slice false 1 E0,AV.slice false 1 E0,AV.slice false 15 E0,AV.slice false 28 E0,AV.slice false 4 E0,AV.slice false 2 E0,AV.slice false 13 E0,AV.slice false 3 E0,I 0,I 0,AV.slice false 1 E0,AV.slice false 1 E0,AV.slice false 15 E0,AV.slice false 28 E0,AV.slice false 4 E0,AV.slice false 2 E0,AV.slice false 13 E0,AV.slice false 3 E0,AV.val (.bool false),I 0,AV.slice false 1 E0,AV.slice false 1 E0,AV.slice false 15 E0,AV.slice false 28 E0,AV.slice false 4 E0,AV.slice false 2 E0,AV.slice false 13 E0,AV.slice false 3 E0]]),(E0++[[AV.val (.int .i64 b),AV.val (.int .i64 f)]]),E0)):=by kernel_rfl
noncomputable def F68:Fn:=⟨12,[2],[],[],0,[],[],Tryz.f68,[.agg hs8],[.c (.bool)],[]⟩
theorem ZBt:F68.S.Ok Tryz.prog 68:=F68.ok Tryz.func68 (by kernel_rfl) trivial
noncomputable def F36:Fn:=⟨62,[6,7],[(4,[(0,.c (.slice 15)),(1,.c (.slice 1)),(2,.c (.int .i64)),(19,.c (.slice 1)),(20,.c (.int .i64)),(21,.c (.int .i64))]),(11,[(0,.c (.slice 15)),(2,.c (.int .i64)),(10,.c (.own true 62)),(44,.c (.slice 1)),(45,.c (.int .i64)),(46,.c (.int .i64))])],[],0,[6],[],Tryz.f36,[.c (.slice 15),.c (.slice 1),.c (.int .i64)],[.c (.own true 62),.c (.int .i64)],[(67,F67.S),(43,F43.S),(68,F68.S)]⟩
theorem ZAL:F36.S.Ok Tryz.prog 36:=F36.ok Tryz.func36 (by kernel_rfl) ⟨ZAi,⟨ZuC,⟨ZBt,trivial⟩⟩⟩
noncomputable def F41.S:Fun:=ZzZ false 35 240
theorem ZBg:F41.S.Ok Tryz.prog 41:=insF_ok (T:=23) (B:=4) (I:=3) (e:=35) (fO:=71) (fR:=72) mixed (by kernel_rfl) Tryz.func41 (by kernel_rfl) ⟨by kernel_rfl,by kernel_rfl,by kernel_rfl⟩ Tryz.func71 (by kernel_rfl) (by kernel_rfl) (by kernel_rfl) (by kernel_rfl)
noncomputable def F38:Fn:=⟨9,[3],[],[1],0,[],[],Tryz.f38,[.agg hs3,.box hs3],[.c (.bool)],[(39,F39.S)]⟩
theorem ZBu:F38.S.Ok Tryz.prog 38:=F38.ok Tryz.func38 (by kernel_rfl) ⟨Zxu,trivial⟩
noncomputable def ZlK:Fn:=⟨19,[4],[(2,[(0,.c (.slice 28)),(1,.clo 38 [19]),(7,.c (.int .i64)),(8,.c (.int .i64)),(19,.gbox hs3)])],[],1,[],[],Tryz.f37,[.c (.slice 28),.clo 38 [19],.dead,.dead,.dead,.dead,.dead,.dead,.dead,.dead,.dead,.dead,.dead,.dead,.dead,.dead,.dead,.dead,.dead,.gbox hs3],[.c (.int .i64)],[(38,F38.S)]⟩
theorem Zq7:ZlK.S.Ok Tryz.prog 37:=ZlK.ok Tryz.func37 (by kernel_rfl) ⟨ZBu,trivial⟩
noncomputable def F14:Fn:=⟨54,[8,9,10],[],[],0,[],[(4,[(0,0)]),(11,[(13,0)])],Tryz.f14,[.c (.own true 62),.c (.slice 28),.agg hs3,.c (.slice 1)],[.c (.slice 15),.c (.slice 28),.c (.int .i64)],[(35,F35.S),(36,F36.S),(37,ZlK.S),(40,F40.S),(42,F42.S),(41,F41.S)]⟩
theorem ZAF:F14.S.Ok Tryz.prog 14:=F14.ok Tryz.func14 (by kernel_rfl) ⟨ZAk,⟨ZAL,⟨Zq7,⟨ZwE,⟨ZAg,⟨ZBg,trivial⟩⟩⟩⟩⟩⟩
end Go.Proofs.YthdihcchfjlgkaaGreat
