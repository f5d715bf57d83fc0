import Derived.Test.YtnkmbgbpkgmbnaaGreatFQj
open Option renaming some→Xa
open Bool renaming false→Xb
open List renaming length→Xg
open Int renaming toNat→Xh
open Go.IntKind renaming wrap→Xl
set_option linter.unusedVariables false
set_option linter.unusedSimpArgs false
set_option linter.defProp false
namespace Go.Proofs.YtnkmbgbpkgmbnaaGreat
open Go Go.AM
set_option maxRecDepth 100000
noncomputable def F63:Fn:=⟨136,[14,15],[(16,[(1,.c (.int .i64)),(2,.c (.int .i64)),(3,.c (.int .i64)),(4,.c (.int .i64)),(5,.c (.int .i64)),(6,.c (.int .i64)),(7,.box hs31),(16,.c (.bool)),(17,.c (.int .i64)),(19,.c (.own Xb 48)),(20,.c (.int .i64))])],[],0,[],[],Tryz.f63,[.agg hs31,.c (.int .i64),.c (.int .i64),.c (.int .i64),.c (.int .i64),.c (.int .i64),.c (.int .i64)],[.c (.slice 7),.c (.int .i64)],[(104,ZpY.S),(105,ZuP.S),(106,ZuB.S)]⟩
def ZAc:F63.S.Ok Tryz.prog 63:=F63.ok Tryz.func63 ⟨Zl8,⟨Zuw,⟨Zvk,trivial⟩⟩⟩
noncomputable def g63 (a c d e f h:Int) (j:Bool) (k l m n o p:Int):Option (LL×Int):=F63.S.g [.i a,.i c,.i d,.i e,.i f,.i h,.b j,.i k,.i l,.i m,.i n,.i o,.i p]
noncomputable def Vs (k:Nat) (a c d e f g h j m n o p:Int) (q r:Bool) (s:Int) (t:LL) (u:Int):Option (LL×Int):=F63.lp [0,1,1,1,0,1,0,0,1,1,1,1,0,0,1,3,1,1,1,0,1,0] 0 r0 k [.i a,.i c,.i d,.i e,.i f,.i g,.i h,.i j,.i m,.i n,.i o,.i p,.b q,.b r,.i s,.l t,.i u]
def Zjg (k:Nat) (b c j l d m o e p f q r:Int) (g n:Bool) (h:Int) (i:LL) (a:Int):Vs (k+1) b c j l d m o e p f q r g n h i a =
 (if P0 .lss a m then
 if n then
 Zl (ZB i (E0++[[I b,I (P1 .add .i64 (P1 .add .i64 e d) (P1 .mul .i64 a h)),I c,I f,I l,I j,B g]]) 56)<|
 Vs k b c j l d m o e p f q r g n h (i++(E0++[[I b,I (P1 .add .i64 (P1 .add .i64 e d) (P1 .mul .i64 a h)),I c,I f,I l,I j,B g]])) (P1 .add .i64 a 1)
 else
 Zl (ZB i (E0++[[I b,I (P1 .add .i64 (P1 .add .i64 e d) (P1 .mul .i64 a h)),I c,I f,I 0,I 0,B g]]) 56)<|
 Vs k b c j l d m o e p f q r g n h (i++(E0++[[I b,I (P1 .add .i64 (P1 .add .i64 e d) (P1 .mul .i64 a h)),I c,I f,I 0,I 0,B g]])) (P1 .add .i64 a 1)
 else
 Xa (i,0)):=by kernel_rfl
def ZvV (g i b h j k:Int) (f:Bool) (c a l m d e:Int):g63 g i b h j k f c a l m d e =
 ((ZqO g i b h j k f).bind fun n=>
 if (!n) then
 Xa (E0,5)
 else
 if P0 .neq g 1 then
 Xa (E0,5)
 else
 if P0 .eql (P1 .and .i64 h 2) 0 then
 Xa (E0,8)
 else
 (ZwP c a).bind fun o=>
 if (!o) then
 Xa (E0,1)
 else
 if P0 .eql c 3 then
 (Zw9 m l).bind fun p=>
 if (!p) then
 Xa (E0,1)
 else
 if P0 .lss e 1 then
 Xa (E0,1)
 else
 if P0 .gtr e 8 then
 Xa (E0,1)
 else
 if P0 .lss d 0 then
 Xa (E0,1)
 else
 if f then
 if P0 .neq c 1 then
 if P0 .neq c 2 then
 Xa (E0,5)
 else
 Zl ((0:Int)≤(Xl .u64 a))<|
 Zl ((0:Int)≤(Xl .u64 b))<|
 Zl (((P1 .shl .i64 1 (Xl .u64 a)):Int)≠0)<|
 if (P0 .neq (P1 .rem .i64 d (P1 .shl .i64 1 (Xl .u64 a))) 0) then
 Xa (E0,6)
 else
 if (P0 .gtr d (P1 .shl .i64 1 (Xl .u64 b))) then
 Xa (E0,6)
 else
 if (P0 .gtr (P1 .mul .i64 e (P1 .shl .i64 1 (Xl .u64 a))) (P1 .sub .i64 (P1 .shl .i64 1 (Xl .u64 b)) d)) then
 Xa (E0,6)
 else
 if P0 .eql c 1 then
 if P0 .geq a b then
 Xa (E0,6)
 else
 Vs ZG c a l m d e g i b h j k f (P0 .eql c 3) (P1 .shl .i64 1 (Xl .u64 a)) E0 0
 else
 Vs ZG c a l m d e g i b h j k f (P0 .eql c 3) (P1 .shl .i64 1 (Xl .u64 a)) E0 0
 else
 Zl ((0:Int)≤(Xl .u64 a))<|
 Zl ((0:Int)≤(Xl .u64 b))<|
 Zl (((P1 .shl .i64 1 (Xl .u64 a)):Int)≠0)<|
 if (P0 .neq (P1 .rem .i64 d (P1 .shl .i64 1 (Xl .u64 a))) 0) then
 Xa (E0,6)
 else
 if (P0 .gtr d (P1 .shl .i64 1 (Xl .u64 b))) then
 Xa (E0,6)
 else
 if (P0 .gtr (P1 .mul .i64 e (P1 .shl .i64 1 (Xl .u64 a))) (P1 .sub .i64 (P1 .shl .i64 1 (Xl .u64 b)) d)) then
 Xa (E0,6)
 else
 if P0 .eql c 1 then
 if P0 .geq a b then
 Xa (E0,6)
 else
 Vs ZG c a l m d e g i b h j k f (P0 .eql c 3) (P1 .shl .i64 1 (Xl .u64 a)) E0 0
 else
 Vs ZG c a l m d e g i b h j k f (P0 .eql c 3) (P1 .shl .i64 1 (Xl .u64 a)) E0 0
 else
 Zl ((0:Int)≤(Xl .u64 a))<|
 Zl ((0:Int)≤(Xl .u64 b))<|
 Zl (((P1 .shl .i64 1 (Xl .u64 a)):Int)≠0)<|
 if (P0 .neq (P1 .rem .i64 d (P1 .shl .i64 1 (Xl .u64 a))) 0) then
 Xa (E0,6)
 else
 if (P0 .gtr d (P1 .shl .i64 1 (Xl .u64 b))) then
 Xa (E0,6)
 else
 if (P0 .gtr (P1 .mul .i64 e (P1 .shl .i64 1 (Xl .u64 a))) (P1 .sub .i64 (P1 .shl .i64 1 (Xl .u64 b)) d)) then
 Xa (E0,6)
 else
 if P0 .eql c 1 then
 if P0 .geq a b then
 Xa (E0,6)
 else
 Vs ZG c a l m d e g i b h j k f (P0 .eql c 3) (P1 .shl .i64 1 (Xl .u64 a)) E0 0
 else
 Vs ZG c a l m d e g i b h j k f (P0 .eql c 3) (P1 .shl .i64 1 (Xl .u64 a)) E0 0
 else
 if P0 .lss e 1 then
 Xa (E0,1)
 else
 if P0 .gtr e 8 then
 Xa (E0,1)
 else
 if P0 .lss d 0 then
 Xa (E0,1)
 else
 if f then
 if P0 .neq c 1 then
 if P0 .neq c 2 then
 Xa (E0,5)
 else
 Zl ((0:Int)≤(Xl .u64 a))<|
 Zl ((0:Int)≤(Xl .u64 b))<|
 Zl (((P1 .shl .i64 1 (Xl .u64 a)):Int)≠0)<|
 if (P0 .neq (P1 .rem .i64 d (P1 .shl .i64 1 (Xl .u64 a))) 0) then
 Xa (E0,6)
 else
 if (P0 .gtr d (P1 .shl .i64 1 (Xl .u64 b))) then
 Xa (E0,6)
 else
 if (P0 .gtr (P1 .mul .i64 e (P1 .shl .i64 1 (Xl .u64 a))) (P1 .sub .i64 (P1 .shl .i64 1 (Xl .u64 b)) d)) then
 Xa (E0,6)
 else
 if P0 .eql c 1 then
 if P0 .geq a b then
 Xa (E0,6)
 else
 Vs ZG c a l m d e g i b h j k f (P0 .eql c 3) (P1 .shl .i64 1 (Xl .u64 a)) E0 0
 else
 Vs ZG c a l m d e g i b h j k f (P0 .eql c 3) (P1 .shl .i64 1 (Xl .u64 a)) E0 0
 else
 Zl ((0:Int)≤(Xl .u64 a))<|
 Zl ((0:Int)≤(Xl .u64 b))<|
 Zl (((P1 .shl .i64 1 (Xl .u64 a)):Int)≠0)<|
 if (P0 .neq (P1 .rem .i64 d (P1 .shl .i64 1 (Xl .u64 a))) 0) then
 Xa (E0,6)
 else
 if (P0 .gtr d (P1 .shl .i64 1 (Xl .u64 b))) then
 Xa (E0,6)
 else
 if (P0 .gtr (P1 .mul .i64 e (P1 .shl .i64 1 (Xl .u64 a))) (P1 .sub .i64 (P1 .shl .i64 1 (Xl .u64 b)) d)) then
 Xa (E0,6)
 else
 if P0 .eql c 1 then
 if P0 .geq a b then
 Xa (E0,6)
 else
 Vs ZG c a l m d e g i b h j k f (P0 .eql c 3) (P1 .shl .i64 1 (Xl .u64 a)) E0 0
 else
 Vs ZG c a l m d e g i b h j k f (P0 .eql c 3) (P1 .shl .i64 1 (Xl .u64 a)) E0 0
 else
 Zl ((0:Int)≤(Xl .u64 a))<|
 Zl ((0:Int)≤(Xl .u64 b))<|
 Zl (((P1 .shl .i64 1 (Xl .u64 a)):Int)≠0)<|
 if (P0 .neq (P1 .rem .i64 d (P1 .shl .i64 1 (Xl .u64 a))) 0) then
 Xa (E0,6)
 else
 if (P0 .gtr d (P1 .shl .i64 1 (Xl .u64 b))) then
 Xa (E0,6)
 else
 if (P0 .gtr (P1 .mul .i64 e (P1 .shl .i64 1 (Xl .u64 a))) (P1 .sub .i64 (P1 .shl .i64 1 (Xl .u64 b)) d)) then
 Xa (E0,6)
 else
 if P0 .eql c 1 then
 if P0 .geq a b then
 Xa (E0,6)
 else
 Vs ZG c a l m d e g i b h j k f (P0 .eql c 3) (P1 .shl .i64 1 (Xl .u64 a)) E0 0
 else
 Vs ZG c a l m d e g i b h j k f (P0 .eql c 3) (P1 .shl .i64 1 (Xl .u64 a)) E0 0):=by kernel_rfl
noncomputable def Ztl:Fn:=⟨49,[6,7],[],[],0,[],[],Tryz.f121,[.agg hs24,.agg [.int .i64,.int .i64,.int .i64],.agg hs31],[.agg hs24,.c (.int .i64)],[(116,Ztg.S),(163,Zth.S),(104,ZpY.S),(123,Zqs.S),(62,F62.S)]⟩
def Zsl:Ztl.S.Ok Tryz.prog 121:=Ztl.ok Tryz.func121 ⟨Zwb,⟨Zq8,⟨Zl8,⟨Zo7,⟨Zy9,trivial⟩⟩⟩⟩⟩
noncomputable def ZtT (a c d:Int) (e:LL) (f h j k m n:Int) (o:Bool) (p q r s t u v w x:Int) (y:Bool):Option (Qt32):=Ztl.S.g [.i a,.i c,.i d,.l e,.i f,.i h,.i j,.i k,.i m,.i n,.b o,.i p,.i q,.i r,.i s,.i t,.i u,.i v,.i w,.i x,.b y]
def Zrq (a b c:Int) (d:LL) (o p q r s t:Int) (u:Bool) (e f g h i j k l m:Int) (n:Bool):ZtT a b c d o p q r s t u e f g h i j k l m n =
 ((ZwH a b c d o p q r s t u).bind fun w=>
 if (!w) then
 Xa (0,0,0,E0,0,0,0,0,0,0,Xb,1)
 else
 (ZsZ e f g).bind fun x=>
 if (!x) then
 Xa (0,0,0,E0,0,0,0,0,0,0,Xb,1)
 else
 (ZqO h i j k l m n).bind fun y=>
 if (!y) then
 Xa (0,0,0,E0,0,0,0,0,0,0,Xb,1)
 else
 if ((P0 .eql e a)&&((P0 .eql f b)&&((P0 .eql g c)&&true))) then
 Xa (0,0,0,E0,0,0,0,0,0,0,Xb,1)
 else
 (ZpF d e f g).bind fun z=>
 if z then
 Xa (0,0,0,E0,0,0,0,0,0,0,Xb,1)
 else
 if P0 .eql (Xg d:Int) 8 then
 Xa (0,0,0,E0,0,0,0,0,0,0,Xb,9)
 else
 (g62 d).bind fun v=>
 Zl (ZB v (E0++[[I a,I b,I c]]) 24)<|
 Xa (e,f,g,(v++(E0++[[I a,I b,I c]])),h,i,j,k,l,m,n,0)):=by kernel_rfl
noncomputable def F73:Fn:=⟨92,[10],[(12,[(0,.box hs25),(1,.c (.int .i64)),(2,.c (.int .i64)),(8,.box hs24),(9,.box hs22),(11,.c (.slice 7)),(13,.c (.own Xb 50)),(14,.c (.int .i64))])],[0],0,[],[],Tryz.f73,[.box hs25,.c (.int .i64),.c (.int .i64),.agg hs24,.agg hs22],[.c (.int .i64)],[(63,F63.S),(66,F66.S),(67,F67.S),(121,Ztl.S),(68,F68.S)]⟩
def ZCh:F73.S.Ok Tryz.prog 73:=F73.ok Tryz.func73 ⟨ZAc,⟨Zw7,⟨ZAu,⟨Zsl,⟨ZwC,trivial⟩⟩⟩⟩⟩
noncomputable def g73 (a:LL) (c d:Int) (e f h j k m n:LL) (o p q r s:Int) (t:LL) (u v w x y z:Int) (A:Bool) (C D E G H J K L M N O P:Int):Option (Qt39):=F73.S.g [.l a,.i c,.i d,.l e,.l f,.l h,.l j,.l k,.l m,.l n,.i o,.i p,.i q,.i r,.i s,.l t,.i u,.i v,.i w,.i x,.i y,.i z,.b A,.i C,.i D,.i E,.i G,.i H,.i J,.i K,.i L,.i M,.i N,.i O,.i P]
noncomputable def ZhS (k:Nat) (a:LL) (c d:Int) (e f g h j m n:LL) (o p q r s:Int) (t:LL) (u v w x y z:Int) (A:Bool) (C D E G H J K L M N O P:Int) (Q R:LL) (T:Int):Option (Qt39):=F73.lp [2,1,0,1,1,0,1,0] 0 r0 k [.l a,.i c,.i d,.l e,.l f,.l g,.l h,.l j,.l m,.l n,.i o,.i p,.i q,.i r,.i s,.l t,.i u,.i v,.i w,.i x,.i y,.i z,.b A,.i C,.i D,.i E,.i G,.i H,.i J,.i K,.i L,.i M,.i N,.i O,.i P,.l Q,.l R,.i T]
def Zjq (k:Nat) (g:LL) (h i:Int) (j l m n o p q:LL) (d r s t u:Int) (v:LL) (w x y z A C:Int) (D:Bool) (G H E J K L M N O P Q R:Int) (e f:LL) (c:Int):ZhS (k+1) g h i j l m n o p q d r s t u v w x y z A C D G H E J K L M N O P Q R e f c =
 (if P0 .lss c (Xg e:Int) then
 Zn e c hs31 fun (b:Qt42)=>
 (ZtT s t u v w x y z A C D d r c b.1 b.2.1 b.2.2.1 b.2.2.2.1 (d4 b).1 (d4 b).2.1 b.2.2.2.2.2.2).bind fun a=>
 Zl (ZB f (E0++[[I a.1,I a.2.1,I a.2.2.1,AV.slice Xb 3 a.2.2.2.1,I (d4 a).1,I (d4 a).2.1,I (d6 a).1,I (d6 a).2.1,I (d8 a).1,I (d8 a).2.1,B (df a).1]]) 104)<|
 ZhS k g h i j l m n o p q d r s t u v w x y z A C D G H E J K L M N O P Q R e (f++(E0++[[I a.1,I a.2.1,I a.2.2.1,AV.slice Xb 3 a.2.2.2.1,I (d4 a).1,I (d4 a).2.1,I (d6 a).1,I (d6 a).2.1,I (d8 a).1,I (d8 a).2.1,B (df a).1]])) (P1 .add .i64 c 1)
 else
 (g68 g h i j l m n o p q d E f).bind fun b=>
 Xa (0,b.1,b.2.1,b.2.2.1,b.2.2.2.1,(d4 b).1,(d4 b).2.1,(d6 b).1,(d6 b).2.1,(d8 b).1,b.2.2.2.2.2.2.2.2.2)):=by kernel_rfl
def ZpX (b:LL) (f g:Int) (h i j k l m n:LL) (c G o p q:Int) (r:LL) (s t u v w x:Int) (y:Bool) (H J z K L A C D E d M N:Int):g73 b f g h i j k l m n c G o p q r s t u v w x y H J z K L A C D E d M N =
 (Zn b c [.int .i64] fun (O:Int)=>
 (g63 s t u v w x y A C D O E d).bind fun e=>
 if P0 .neq e.2 0 then
 Xa (e.2,b,f,g,h,i,j,k,l,m,n)
 else
 (g66 b f g h i j k l m n c z d).bind fun a=>
 if a.1 then
 Xa (3,a.2.1,a.2.2.1,a.2.2.2.1,(d4 a).1,(d4 a).2.1,(d6 a).1,(d6 a).2.1,(d8 a).1,(d8 a).2.1,a.2.2.2.2.2.2.2.2.2.2)
 else
 if P0 .eql (Xg r:Int) 8 then
 Xa (9,a.2.1,a.2.2.1,a.2.2.2.1,(d4 a).1,(d4 a).2.1,(d6 a).1,(d6 a).2.1,(d8 a).1,(d8 a).2.1,a.2.2.2.2.2.2.2.2.2.2)
 else
 (g67 (d6 a).1 o p q e.1).bind fun P=>
 if P then
 Xa (7,a.2.1,a.2.2.1,a.2.2.2.1,(d4 a).1,(d4 a).2.1,(d6 a).1,(d6 a).2.1,(d8 a).1,(d8 a).2.1,a.2.2.2.2.2.2.2.2.2.2)
 else
 ZhS ZG a.2.1 a.2.2.1 a.2.2.2.1 (d4 a).1 (d4 a).2.1 (d6 a).1 (d6 a).2.1 (d8 a).1 (d8 a).2.1 a.2.2.2.2.2.2.2.2.2.2 c G o p q r s t u v w x y H J z K L A C D E d M N e.1 E0 0):=by kernel_rfl
noncomputable def Zwa:Fn:=⟨11,[4],[],[],0,[],[],Tryz.f122,[.agg hs31,.c (.int .i64)],[.agg hs31],[]⟩
def ZtD:Zwa.S.Ok Tryz.prog 122:=Zwa.ok Tryz.func122
noncomputable def Zxj (a c d e f h:Int) (j:Bool) (k:Int):Option (Qt42):=Zwa.S.g [.i a,.i c,.i d,.i e,.i f,.i h,.b j,.i k]
def Zra (a b c d e f:Int) (g:Bool) (h:Int):Zxj a b c d e f g h =
 (Xa (a,b,c,(P1 .and .i64 d h),e,f,g)):=by kernel_rfl
noncomputable def F74:Fn:=⟨42,[10],[],[0],0,[],[],Tryz.f74,[.box hs25,.c (.int .i64),.c (.int .i64),.agg hs24,.agg hs22],[.c (.int .i64)],[(66,F66.S),(122,Zwa.S),(121,Ztl.S),(68,F68.S)]⟩
def ZAZ:F74.S.Ok Tryz.prog 74:=F74.ok Tryz.func74 ⟨Zw7,⟨ZtD,⟨Zsl,⟨ZwC,trivial⟩⟩⟩⟩
noncomputable def g74 (a:LL) (c d:Int) (e f h j k m n:LL) (o p q r s:Int) (t:LL) (u v w x y z:Int) (A:Bool) (C D E G H J K L M N O P:Int):Option (Qt39):=F74.S.g [.l a,.i c,.i d,.l e,.l f,.l h,.l j,.l k,.l m,.l n,.i o,.i p,.i q,.i r,.i s,.l t,.i u,.i v,.i w,.i x,.i y,.i z,.b A,.i C,.i D,.i E,.i G,.i H,.i J,.i K,.i L,.i M,.i N,.i O,.i P]
def Zqb (o:LL) (p q:Int) (r s t u v w x:LL) (e y z A C:Int) (f:LL) (g h i j k l:Int) (m:Bool) (E G n H D J K L M N O P:Int):g74 o p q r s t u v w x e y z A C f g h i j k l m E G n H D J K L M N O P =
 ((g66 o p q r s t u v w x e n 1).bind fun a=>
 if a.1 then
 Xa (3,a.2.1,a.2.2.1,a.2.2.2.1,(d4 a).1,(d4 a).2.1,(d6 a).1,(d6 a).2.1,(d8 a).1,(d8 a).2.1,a.2.2.2.2.2.2.2.2.2.2)
 else
 if P0 .eql (Xg f:Int) 8 then
 Xa (9,a.2.1,a.2.2.1,a.2.2.2.1,(d4 a).1,(d4 a).2.1,(d6 a).1,(d6 a).2.1,(d8 a).1,(d8 a).2.1,a.2.2.2.2.2.2.2.2.2.2)
 else
 (Zxj g h i j k l m D).bind fun d=>
 (ZtT z A C f g h i j k l m e y 0 d.1 d.2.1 d.2.2.1 d.2.2.2.1 (d4 d).1 (d4 d).2.1 d.2.2.2.2.2.2).bind fun b=>
 (g68 a.2.1 a.2.2.1 a.2.2.2.1 (d4 a).1 (d4 a).2.1 (d6 a).1 (d6 a).2.1 (d8 a).1 (d8 a).2.1 a.2.2.2.2.2.2.2.2.2.2 e n (E0++[[I b.1,I b.2.1,I b.2.2.1,AV.slice Xb 3 b.2.2.2.1,I (d4 b).1,I (d4 b).2.1,I (d6 b).1,I (d6 b).2.1,I (d8 b).1,I (d8 b).2.1,B (df b).1]])).bind fun c=>
 Xa (0,c.1,c.2.1,c.2.2.1,c.2.2.2.1,(d4 c).1,(d4 c).2.1,(d6 c).1,(d6 c).2.1,(d8 c).1,c.2.2.2.2.2.2.2.2.2)):=by kernel_rfl
noncomputable def F33:Fn:=⟨25,[4],[],[0],0,[],[],Tryz.f33,[.box hs25,.c (.int .i64)],[.c (.bool)],[]⟩
def Zz4:F33.S.Ok Tryz.prog 33:=F33.ok Tryz.func33
noncomputable def g33 (a:LL) (b c:Int) (d e f h j k m:LL) (n:Int):Option (Qt38):=F33.S.g [.l a,.i b,.i c,.l d,.l e,.l f,.l h,.l j,.l k,.l m,.i n]
def Zt2 (c:LL) (d e:Int) (f g h i a j k:LL) (b:Int):g33 c d e f g h i a j k b =
 (if P0 .geq b 0 then
 if P0 .lss b (Xg a:Int) then
 Zl ((0:Int)≤b)<|
 Zl ((b:Int) < (Xg a:Int))<|
 Zn a b [.bool] fun (l:Bool)=>
 Xa (l,c,d,e,f,g,h,i,a,j,k)
 else
 Xa (Xb,c,d,e,f,g,h,i,a,j,k)
 else
 Xa (Xb,c,d,e,f,g,h,i,a,j,k)):=by kernel_rfl
noncomputable def F75:Fn:=⟨75,[10],[],[0],0,[],[],Tryz.f75,[.box hs25,.c (.int .i64),.c (.int .i64),.agg hs24,.agg hs22],[.c (.int .i64)],[(33,F33.S),(66,F66.S),(122,Zwa.S),(121,Ztl.S),(68,F68.S)]⟩
def ZBJ:F75.S.Ok Tryz.prog 75:=F75.ok Tryz.func75 ⟨Zz4,⟨Zw7,⟨ZtD,⟨Zsl,⟨ZwC,trivial⟩⟩⟩⟩⟩
noncomputable def g75 (a:LL) (c d:Int) (e f h j k m n:LL) (o p q r s:Int) (t:LL) (u v w x y z:Int) (A:Bool) (C D E G H J K L M N O P:Int):Option (Qt39):=F75.S.g [.l a,.i c,.i d,.l e,.l f,.l h,.l j,.l k,.l m,.l n,.i o,.i p,.i q,.i r,.i s,.l t,.i u,.i v,.i w,.i x,.i y,.i z,.b A,.i C,.i D,.i E,.i G,.i H,.i J,.i K,.i L,.i M,.i N,.i O,.i P]
def ZpN (e:LL) (f g:Int) (h i j k l m n:LL) (z A C D E:Int) (s:LL) (p t u q v w:Int) (x:Bool) (H J y r G K L M N O P Q:Int):g75 e f g h i j k l m n z A C D E s p t u q v w x H J y r G K L M N O P Q =
 (if P0 .eql p 3 then
 Xa (5,e,f,g,h,i,j,k,l,m,n)
 else
 if P0 .eql p 5 then
 Xa (5,e,f,g,h,i,j,k,l,m,n)
 else
 if P0 .eql p 6 then
 Xa (5,e,f,g,h,i,j,k,l,m,n)
 else
 if P0 .eql (P1 .and .i64 q 4) 0 then
 Xa (8,e,f,g,h,i,j,k,l,m,n)
 else
 if P0 .eql (Xg s:Int) 8 then
 Xa (9,e,f,g,h,i,j,k,l,m,n)
 else
 (g33 e f g h i j k l m n r).bind fun a=>
 if (!a.1) then
 Xa (10,a.2.1,a.2.2.1,a.2.2.2.1,(d4 a).1,(d4 a).2.1,(d6 a).1,(d6 a).2.1,(d8 a).1,(d8 a).2.1,a.2.2.2.2.2.2.2.2.2.2)
 else
 (g66 a.2.1 a.2.2.1 a.2.2.2.1 (d4 a).1 (d4 a).2.1 (d6 a).1 (d6 a).2.1 (d8 a).1 (d8 a).2.1 a.2.2.2.2.2.2.2.2.2.2 r y 1).bind fun b=>
 if b.1 then
 Xa (3,b.2.1,b.2.2.1,b.2.2.2.1,(d4 b).1,(d4 b).2.1,(d6 b).1,(d6 b).2.1,(d8 b).1,(d8 b).2.1,b.2.2.2.2.2.2.2.2.2.2)
 else
 (Zxj p t u q v w x G).bind fun o=>
 (ZtT C D E s p t u q v w x z A 0 o.1 o.2.1 o.2.2.1 o.2.2.2.1 (d4 o).1 (d4 o).2.1 o.2.2.2.2.2.2).bind fun c=>
 (g68 b.2.1 b.2.2.1 b.2.2.2.1 (d4 b).1 (d4 b).2.1 (d6 b).1 (d6 b).2.1 (d8 b).1 (d8 b).2.1 b.2.2.2.2.2.2.2.2.2.2 r y (E0++[[I c.1,I c.2.1,I c.2.2.1,AV.slice Xb 3 c.2.2.2.1,I (d4 c).1,I (d4 c).2.1,I (d6 c).1,I (d6 c).2.1,I (d8 c).1,I (d8 c).2.1,B (df c).1]])).bind fun d=>
 Xa (0,d.1,d.2.1,d.2.2.1,d.2.2.2.1,(d4 d).1,(d4 d).2.1,(d6 d).1,(d6 d).2.1,(d8 d).1,d.2.2.2.2.2.2.2.2.2)):=by kernel_rfl
noncomputable def F76:Fn:=⟨22,[4,5],[],[],0,[],[],Tryz.f76,[.c (.slice 13),.agg [.int .i64,.int .i64,.int .i64]],[.c (.slice 13),.c (.bool)],[(107,Zrm.S),(22,F22.S)]⟩
def ZA5:F76.S.Ok Tryz.prog 76:=F76.ok Tryz.func76 ⟨ZqE,⟨ZwV,trivial⟩⟩
noncomputable def g76 (a:LL) (b c d:Int):Option (LL×Bool):=F76.S.g [.l a,.i b,.i c,.i d]
def Zp0 (b:LL) (c d e:Int):g76 b c d e =
 ((Zvg b c d e).bind fun a=>
 if P0 .lss a 0 then
 Xa (E0,Xb)
 else
 Zl ((0:Int)≤a)<|
 Zl ((a:Int)≤(Xg b:Int))<|
 (g22 (List.take (Xh a) b)).bind fun f=>
 Zl ((0:Int)≤(P1 .add .i64 a 1))<|
 Zl (((P1 .add .i64 a 1):Int)≤(Xg b:Int))<|
 (g22 (List.drop (Xh (P1 .add .i64 a 1)) b)).bind fun g=>
 Zl (ZB f g 120)<|
 Xa ((f++g),true)):=by kernel_rfl
noncomputable def F77:Fn:=⟨31,[4],[(3,[(0,.c (.slice 13)),(3,.box [.int .i64,.int .i64,.int .i64]),(5,.c (.own Xb 52)),(6,.c (.int .i64))])],[],0,[],[],Tryz.f77,[.c (.slice 13),.agg [.int .i64,.int .i64,.int .i64]],[.c (.slice 13)],[(123,Zqs.S),(22,F22.S)]⟩
def ZB3:F77.S.Ok Tryz.prog 77:=F77.ok Tryz.func77 ⟨Zo7,⟨ZwV,trivial⟩⟩
noncomputable def g77 (a:LL) (b c d:Int):Option (LL):=F77.S.g [.l a,.i b,.i c,.i d]
noncomputable def Zkb (k:Nat) (a:LL) (b c d:Int) (e:LL) (f:Int):Option (LL):=F77.lp [0] 0 r0 k [.l a,.i b,.i c,.i d,.l e,.i f]
def ZeS (k:Nat) (b:LL) (e f g:Int) (d:LL) (c:Int):Zkb (k+1) b e f g d c =
 (if P0 .lss c (Xg b:Int) then
 Zn b c hs21 fun (h:Qt30)=>
 (ZpF (d4 h).2.1 e f g).bind fun i=>
 if (!i) then
 Zn b c hs21 fun (a:Qt30)=>
 Zl (ZB d (E0++[[I a.1,I a.2.1,I a.2.2.1,I a.2.2.2.1,I (d4 a).1,AV.slice Xb 3 (d4 a).2.1,I (d6 a).1,I (d6 a).2.1,I (d8 a).1,I (d8 a).2.1,I (df a).1,I (df a).2.1,B (dg a)]]) 120)<|
 Zkb k b e f g (d++(E0++[[I a.1,I a.2.1,I a.2.2.1,I a.2.2.2.1,I (d4 a).1,AV.slice Xb 3 (d4 a).2.1,I (d6 a).1,I (d6 a).2.1,I (d8 a).1,I (d8 a).2.1,I (df a).1,I (df a).2.1,B (dg a)]])) (P1 .add .i64 c 1)
 else
 Zkb k b e f g d (P1 .add .i64 c 1)
 else
 (g22 d).bind fun h=>
 Xa (h)):=by kernel_rfl
def Zqq (a:LL) (b c d:Int):g77 a b c d =
 (Zkb ZG a b c d E0 0):=by kernel_rfl
noncomputable def F64:Fn:=⟨18,[4],[(2,[(0,.c (.slice 1)),(1,.c (.int .i64)),(5,.c (.int .i64))])],[],0,[],[],Tryz.f64,[.c (.slice 1),.c (.int .i64)],[.c (.bool)],[]⟩
def Zz1:F64.S.Ok Tryz.prog 64:=F64.ok Tryz.func64
noncomputable def g64 (a:LL) (b:Int):Option (Bool):=F64.S.g [.l a,.i b]
noncomputable def ZhJ (k:Nat) (a:LL) (b c:Int):Option (Bool):=F64.lp [0] 0 r0 k [.l a,.i b,.i c]
def Zix (k:Nat) (a:LL) (c b:Int):ZhJ (k+1) a c b =
 (if P0 .lss b (Xg a:Int) then
 Zn a b [.int .i64] fun (d:Int)=>
 if P0 .eql d c then
 Xa (true)
 else
 ZhJ k a c (P1 .add .i64 b 1)
 else
 Xa (Xb)):=by kernel_rfl
def Zvz (a:LL) (b:Int):g64 a b =
 (ZhJ ZG a b 0):=by kernel_rfl
noncomputable def ZqC:Fn:=⟨76,[6],[(3,[(0,.c (.slice 4)),(1,.c (.slice 3)),(2,.c (.slice 1)),(7,.c (.own Xb 191)),(8,.c (.int .i64))]),(9,[(0,.c (.slice 4)),(1,.c (.slice 3)),(2,.c (.slice 1)),(7,.c (.own Xb 191)),(8,.c (.int .i64)),(9,.box [.int .i64,.int .i64,.int .i64,.slice 6]),(10,.c (.int .i64))])],[],0,[],[],Tryz.f124,[.c (.slice 4),.c (.slice 3),.c (.slice 1)],[.c (.slice 4)],[(64,F64.S),(123,Zqs.S)]⟩
def ZyT:ZqC.S.Ok Tryz.prog 124:=ZqC.ok Tryz.func124 ⟨Zz1,⟨Zo7,trivial⟩⟩
noncomputable def Zx4 (a b c:LL):Option (LL):=ZqC.S.g [.l a,.l b,.l c]
noncomputable def Zd3 (n:List V→Option (LL)) (k:Nat) (a b c d:LL) (e f g h:Int) (j:LL) (m:Int):Option (LL):=ZqC.lp [2,2,1,2] 1 (ZlY r0 0 n) k [.l a,.l b,.l c,.l d,.i e,.i f,.i g,.i h,.l j,.i m]
def Zlm (t:List V→Option (LL)) (k:Nat) (b e h f:LL) (c j m n:Int) (d:LL) (g:Int):Zd3 t (k+1) b e h f c j m n d g =
 (Zn b c [.int .i64,.int .i64,.int .i64,.slice 6] fun (p:Int×Int×Int×LL)=>
 if P0 .lss g (Xg p.2.2.2:Int) then
 Zn b c [.int .i64,.int .i64,.int .i64,.slice 6] fun (q:Int×Int×Int×LL)=>
 Zn q.2.2.2 g hs34 fun (o:Qt44)=>
 (ZpF e o.2.2.2.1 (d4 o).1 o.2.2.2.2.2).bind fun r=>
 if r then
 Zl (ZB E0 d 48)<|
 Zn b c [.int .i64,.int .i64,.int .i64,.slice 6] fun (s:Int×Int×Int×LL)=>
 Zn s.2.2.2 g hs34 fun (a:Qt44)=>
 Zl (ZB d (E0++[[I a.1,I a.2.1,I a.2.2.1,I a.2.2.2.1,I (d4 a).1,I a.2.2.2.2.2]]) 48)<|
 Zd3 t k b e h f c j m n (d++(E0++[[I a.1,I a.2.1,I a.2.2.1,I a.2.2.2.1,I (d4 a).1,I a.2.2.2.2.2]])) (P1 .add .i64 g 1)
 else
 Zd3 t k b e h f c j m n d (P1 .add .i64 g 1)
 else
 if P0 .gtr (Xg d:Int) 0 then
 Zl (ZB f (E0++[[I j,I m,I n,AV.slice Xb 6 d]]) 48)<|
 t [.l b,.l e,.l h,.l (f++(E0++[[I j,I m,I n,AV.slice Xb 6 d]])),.i (P1 .add .i64 c 1)]
 else
 t [.l b,.l e,.l h,.l f,.i (P1 .add .i64 c 1)]):=by kernel_rfl
noncomputable def Zja (k:Nat) (a b c d:LL) (e:Int):Option (LL):=ZqC.lp [0] 0 r0 k [.l a,.l b,.l c,.l d,.i e]
def ZnK (k:Nat) (a e c d:LL) (b:Int):Zja (k+1) a e c d b =
 (if P0 .lss b (Xg a:Int) then
 Zn a b [.int .i64,.int .i64,.int .i64,.slice 6] fun (g:Int×Int×Int×LL)=>
 (g64 c g.1).bind fun h=>
 if (!h) then
 Zja k a e c d (P1 .add .i64 b 1)
 else
 Zn a b [.int .i64,.int .i64,.int .i64,.slice 6] fun (f:Int×Int×Int×LL)=>
 Zd3 (ZqC.lp [0] 0 r0 k) ZG a e c d b f.1 f.2.1 f.2.2.1 E0 0
 else
 Xa (d)):=by kernel_rfl
def Zsa (a b c:LL):Zx4 a b c =
 (Zja ZG a b c E0 0):=by kernel_rfl
noncomputable def F78:Fn:=⟨86,[],[(1,[(0,.box hs25),(2,.c (.int .i64))]),(6,[(0,.box hs25),(2,.c (.int .i64)),(3,.c (.own Xb 45)),(4,.c (.own Xb 3)),(5,.c (.int .i64))])],[0],0,[],[],Tryz.f78,[.box hs25],[],[(124,ZqC.S)]⟩
def ZBn:F78.S.Ok Tryz.prog 78:=F78.ok Tryz.func78 ⟨ZyT,trivial⟩
noncomputable def g78 (a:LL) (b c:Int) (d e f h j k m:LL):Option (Qt41):=F78.S.g [.l a,.i b,.i c,.l d,.l e,.l f,.l h,.l j,.l k,.l m]
noncomputable def ZjM (r:List V→Option (Qt41)) (k:Nat) (a:LL) (b c:Int) (d e f g h j m:LL) (n:Int) (o p:LL) (q:Int):Option (Qt41):=F78.lp [2,0] 1 (ZlY r0 0 r) k [.l a,.i b,.i c,.l d,.l e,.l f,.l g,.l h,.l j,.l m,.i n,.l o,.l p,.i q]
def Zn3 (w:List V→Option (Qt41)) (k:Nat) (h:LL) (j m:Int) (n o b c p q r:LL) (a:Int) (f g:LL) (d:Int):ZjM w (k+1) h j m n o b c p q r a f g d =
 (if P0 .lss d (Xg b:Int) then
 Zn b d hs21 fun (s:Qt30)=>
 if P0 .eql s.1 a then
 Zn b d hs21 fun (e:Qt30)=>
 Zl (ZB f (E0++[[I e.2.2.1,I e.2.2.2.1,I (d4 e).1]]) 24)<|
 Zn b d hs21 fun (u:Qt30)=>
 if P0 .eql (d6 u).1 3 then
 Zn b d hs21 fun (t:Qt30)=>
 Zl (ZB g (E0++[[I (d6 t).2.1]]) 8)<|
 ZjM w k h j m n o b c p q r a (f++(E0++[[I e.2.2.1,I e.2.2.2.1,I (d4 e).1]])) (g++(E0++[[I (d6 t).2.1]])) (P1 .add .i64 d 1)
 else
 ZjM w k h j m n o b c p q r a (f++(E0++[[I e.2.2.1,I e.2.2.2.1,I (d4 e).1]])) g (P1 .add .i64 d 1)
 else
 ZjM w k h j m n o b c p q r a f g (P1 .add .i64 d 1)
 else
 Zl ((0:Int)≤a)<|
 Zl ((a:Int) < (Xg c:Int))<|
 Zn c a [.slice 4] fun (s:LL)=>
 (Zx4 s f g).bind fun v=>
 Zl ((0:Int)≤a)<|
 Zl ((a:Int) < (Xg c:Int))<|
 Zl ((0:Int)≤a)<|
 Zl ((a:Int) < (Xg c:Int))<|
 w [.l h,.i j,.i m,.l n,.l o,.l b,.l (Zw c (Xh a) 0 [AV.slice Xb 4 v]),.l p,.l q,.l r,.i (P1 .add .i64 a 1)]):=by kernel_rfl
noncomputable def ZsI (k:Nat) (a:LL) (b c:Int) (d e f g h j m:LL) (n:Int):Option (Qt41):=F78.lp [0] 0 r0 k [.l a,.i b,.i c,.l d,.l e,.l f,.l g,.l h,.l j,.l m,.i n]
def Zof (k:Nat) (b:LL) (c d:Int) (e f g a h i j:LL) (l:Int):ZsI (k+1) b c d e f g a h i j l =
 (if P0 .lss l (Xg a:Int) then
 ZjM (F78.lp [0] 0 r0 k) ZG b c d e f g a h i j l E0 E0 0
 else
 Xa (b,c,d,e,f,g,a,h,i,j)):=by kernel_rfl
def Zvx (a:LL) (b c:Int) (d e f g h i j:LL):g78 a b c d e f g h i j =
 (ZsI ZG a b c d e f g h i j 0):=by kernel_rfl
noncomputable def F38:Fn:=⟨162,[8],[],[0],0,[],[],Tryz.f38,[.box hs25,.c (.int .i64),.c (.int .i64),.agg hs22],[.c (.int .i64)],[(65,F65.S),(69,F69.S),(73,F73.S),(74,F74.S),(75,F75.S),(76,F76.S),(78,F78.S),(77,F77.S)]⟩
def ZBT:F38.S.Ok Tryz.prog 38:=F38.ok Tryz.func38 ⟨Zub,⟨Zul,⟨ZCh,⟨ZAZ,⟨ZBJ,⟨ZA5,⟨ZBn,⟨ZB3,trivial⟩⟩⟩⟩⟩⟩⟩⟩
noncomputable def g38 (a:LL) (b c:Int) (d e f h j k m:LL) (n o p q r s t u v w x y z A:Int):Option (Qt39):=F38.S.g [.l a,.i b,.i c,.l d,.l e,.l f,.l h,.l j,.l k,.l m,.i n,.i o,.i p,.i q,.i r,.i s,.i t,.i u,.i v,.i w,.i x,.i y,.i z,.i A]
def ZpR (x:LL) (y z:Int) (A C D E G H J:LL) (k q f l m o n r s t u p v w:Int):g38 x y z A C D E G H J k q f l m o n r s t u p v w =
 ((g65 x y z A C D E G H J l).bind fun c=>
 if (!c.1) then
 Xa (1,c.2.1,c.2.2.1,c.2.2.2.1,(d4 c).1,(d4 c).2.1,(d6 c).1,(d6 c).2.1,(d8 c).1,(d8 c).2.1,c.2.2.2.2.2.2.2.2.2.2)
 else
 if P0 .eql f 2 then
 if P0 .lss p 1 then
 Xa (1,c.2.1,c.2.2.1,c.2.2.2.1,(d4 c).1,(d4 c).2.1,(d6 c).1,(d6 c).2.1,(d8 c).1,(d8 c).2.1,c.2.2.2.2.2.2.2.2.2.2)
 else
 if P0 .gtr p 8 then
 Xa (1,c.2.1,c.2.2.1,c.2.2.2.1,(d4 c).1,(d4 c).2.1,(d6 c).1,(d6 c).2.1,(d8 c).1,(d8 c).2.1,c.2.2.2.2.2.2.2.2.2.2)
 else
 if P0 .lss m 0 then
 Xa (1,c.2.1,c.2.2.1,c.2.2.2.1,(d4 c).1,(d4 c).2.1,(d6 c).1,(d6 c).2.1,(d8 c).1,(d8 c).2.1,c.2.2.2.2.2.2.2.2.2.2)
 else
 if P0 .gtr m (P1 .sub .i64 c.2.2.2.1 p) then
 Xa (1,c.2.1,c.2.2.1,c.2.2.2.1,(d4 c).1,(d4 c).2.1,(d6 c).1,(d6 c).2.1,(d8 c).1,(d8 c).2.1,c.2.2.2.2.2.2.2.2.2.2)
 else
 (g69 c.2.1 c.2.2.1 c.2.2.2.1 (d4 c).1 (d4 c).2.1 (d6 c).1 (d6 c).2.1 (d8 c).1 (d8 c).2.1 c.2.2.2.2.2.2.2.2.2.2 k l).bind fun a=>
 if (!(df a).2.1) then
 Xa (2,(dg a).1,(dg a).2.1,(dh a).1,(dh a).2.1,(P2 a).1,(P2 a).2.1,(d2 (P2 a)).1,(d2 (P2 a)).2.1,(d4 (P2 a)).1,(d4 (P2 a)).2)
 else
 if P0 .eql f 2 then
 (g73 (dg a).1 (dg a).2.1 (dh a).1 (dh a).2.1 (P2 a).1 (P2 a).2.1 (d2 (P2 a)).1 (d2 (P2 a)).2.1 (d4 (P2 a)).1 (d4 (P2 a)).2 k q a.1 a.2.1 a.2.2.1 a.2.2.2.1 (d4 a).1 (d4 a).2.1 (d6 a).1 (d6 a).2.1 (d8 a).1 (d8 a).2.1 (df a).1 f l m o n r s t u p v w).bind fun d=>
 Xa (d.1,d.2.1,d.2.2.1,d.2.2.2.1,(d4 d).1,(d4 d).2.1,(d6 d).1,(d6 d).2.1,(d8 d).1,(d8 d).2.1,d.2.2.2.2.2.2.2.2.2.2)
 else
 if P0 .eql f 3 then
 (g74 (dg a).1 (dg a).2.1 (dh a).1 (dh a).2.1 (P2 a).1 (P2 a).2.1 (d2 (P2 a)).1 (d2 (P2 a)).2.1 (d4 (P2 a)).1 (d4 (P2 a)).2 k q a.1 a.2.1 a.2.2.1 a.2.2.2.1 (d4 a).1 (d4 a).2.1 (d6 a).1 (d6 a).2.1 (d8 a).1 (d8 a).2.1 (df a).1 f l m o n r s t u p v w).bind fun d=>
 Xa (d.1,d.2.1,d.2.2.1,d.2.2.2.1,(d4 d).1,(d4 d).2.1,(d6 d).1,(d6 d).2.1,(d8 d).1,(d8 d).2.1,d.2.2.2.2.2.2.2.2.2.2)
 else
 if P0 .eql f 4 then
 (g75 (dg a).1 (dg a).2.1 (dh a).1 (dh a).2.1 (P2 a).1 (P2 a).2.1 (d2 (P2 a)).1 (d2 (P2 a)).2.1 (d4 (P2 a)).1 (d4 (P2 a)).2 k q a.1 a.2.1 a.2.2.1 a.2.2.2.1 (d4 a).1 (d4 a).2.1 (d6 a).1 (d6 a).2.1 (d8 a).1 (d8 a).2.1 (df a).1 f l m o n r s t u p v w).bind fun d=>
 Xa (d.1,d.2.1,d.2.2.1,d.2.2.2.1,(d4 d).1,(d4 d).2.1,(d6 d).1,(d6 d).2.1,(d8 d).1,(d8 d).2.1,d.2.2.2.2.2.2.2.2.2.2)
 else
 if P0 .eql f 5 then
 (g76 (P2 a).2.1 a.1 a.2.1 a.2.2.1).bind fun d=>
 (g78 (dg a).1 (dg a).2.1 (dh a).1 (dh a).2.1 (P2 a).1 d.1 (d2 (P2 a)).1 (d2 (P2 a)).2.1 (d4 (P2 a)).1 (d4 (P2 a)).2).bind fun g=>
 Xa (0,g.1,g.2.1,g.2.2.1,g.2.2.2.1,(d4 g).1,(d4 g).2.1,(d6 g).1,(d6 g).2.1,(d8 g).1,g.2.2.2.2.2.2.2.2.2)
 else
 (g77 (P2 a).2.1 a.1 a.2.1 a.2.2.1).bind fun d=>
 (g78 (dg a).1 (dg a).2.1 (dh a).1 (dh a).2.1 (P2 a).1 d (d2 (P2 a)).1 (d2 (P2 a)).2.1 (d4 (P2 a)).1 (d4 (P2 a)).2).bind fun h=>
 Xa (0,h.1,h.2.1,h.2.2.1,h.2.2.2.1,(d4 h).1,(d4 h).2.1,(d6 h).1,(d6 h).2.1,(d8 h).1,h.2.2.2.2.2.2.2.2.2)
 else
 if P0 .eql f 3 then
 (g65 c.2.1 c.2.2.1 c.2.2.2.1 (d4 c).1 (d4 c).2.1 (d6 c).1 (d6 c).2.1 (d8 c).1 (d8 c).2.1 c.2.2.2.2.2.2.2.2.2.2 m).bind fun a=>
 if (!a.1) then
 Xa (1,a.2.1,a.2.2.1,a.2.2.2.1,(d4 a).1,(d4 a).2.1,(d6 a).1,(d6 a).2.1,(d8 a).1,(d8 a).2.1,a.2.2.2.2.2.2.2.2.2.2)
 else
 if P0 .lss n 0 then
 Xa (1,a.2.1,a.2.2.1,a.2.2.2.1,(d4 a).1,(d4 a).2.1,(d6 a).1,(d6 a).2.1,(d8 a).1,(d8 a).2.1,a.2.2.2.2.2.2.2.2.2.2)
 else
 if P0 .gtr n 7 then
 Xa (1,a.2.1,a.2.2.1,a.2.2.2.1,(d4 a).1,(d4 a).2.1,(d6 a).1,(d6 a).2.1,(d8 a).1,(d8 a).2.1,a.2.2.2.2.2.2.2.2.2.2)
 else
 (g69 a.2.1 a.2.2.1 a.2.2.2.1 (d4 a).1 (d4 a).2.1 (d6 a).1 (d6 a).2.1 (d8 a).1 (d8 a).2.1 a.2.2.2.2.2.2.2.2.2.2 k l).bind fun b=>
 if (!(df b).2.1) then
 Xa (2,(dg b).1,(dg b).2.1,(dh b).1,(dh b).2.1,(P2 b).1,(P2 b).2.1,(d2 (P2 b)).1,(d2 (P2 b)).2.1,(d4 (P2 b)).1,(d4 (P2 b)).2)
 else
 if P0 .eql f 2 then
 (g73 (dg b).1 (dg b).2.1 (dh b).1 (dh b).2.1 (P2 b).1 (P2 b).2.1 (d2 (P2 b)).1 (d2 (P2 b)).2.1 (d4 (P2 b)).1 (d4 (P2 b)).2 k q b.1 b.2.1 b.2.2.1 b.2.2.2.1 (d4 b).1 (d4 b).2.1 (d6 b).1 (d6 b).2.1 (d8 b).1 (d8 b).2.1 (df b).1 f l m o n r s t u p v w).bind fun e=>
 Xa (e.1,e.2.1,e.2.2.1,e.2.2.2.1,(d4 e).1,(d4 e).2.1,(d6 e).1,(d6 e).2.1,(d8 e).1,(d8 e).2.1,e.2.2.2.2.2.2.2.2.2.2)
 else
 if P0 .eql f 3 then
 (g74 (dg b).1 (dg b).2.1 (dh b).1 (dh b).2.1 (P2 b).1 (P2 b).2.1 (d2 (P2 b)).1 (d2 (P2 b)).2.1 (d4 (P2 b)).1 (d4 (P2 b)).2 k q b.1 b.2.1 b.2.2.1 b.2.2.2.1 (d4 b).1 (d4 b).2.1 (d6 b).1 (d6 b).2.1 (d8 b).1 (d8 b).2.1 (df b).1 f l m o n r s t u p v w).bind fun e=>
 Xa (e.1,e.2.1,e.2.2.1,e.2.2.2.1,(d4 e).1,(d4 e).2.1,(d6 e).1,(d6 e).2.1,(d8 e).1,(d8 e).2.1,e.2.2.2.2.2.2.2.2.2.2)
 else
 if P0 .eql f 4 then
 (g75 (dg b).1 (dg b).2.1 (dh b).1 (dh b).2.1 (P2 b).1 (P2 b).2.1 (d2 (P2 b)).1 (d2 (P2 b)).2.1 (d4 (P2 b)).1 (d4 (P2 b)).2 k q b.1 b.2.1 b.2.2.1 b.2.2.2.1 (d4 b).1 (d4 b).2.1 (d6 b).1 (d6 b).2.1 (d8 b).1 (d8 b).2.1 (df b).1 f l m o n r s t u p v w).bind fun e=>
 Xa (e.1,e.2.1,e.2.2.1,e.2.2.2.1,(d4 e).1,(d4 e).2.1,(d6 e).1,(d6 e).2.1,(d8 e).1,(d8 e).2.1,e.2.2.2.2.2.2.2.2.2.2)
 else
 if P0 .eql f 5 then
 (g76 (P2 b).2.1 b.1 b.2.1 b.2.2.1).bind fun e=>
 (g78 (dg b).1 (dg b).2.1 (dh b).1 (dh b).2.1 (P2 b).1 e.1 (d2 (P2 b)).1 (d2 (P2 b)).2.1 (d4 (P2 b)).1 (d4 (P2 b)).2).bind fun i=>
 Xa (0,i.1,i.2.1,i.2.2.1,i.2.2.2.1,(d4 i).1,(d4 i).2.1,(d6 i).1,(d6 i).2.1,(d8 i).1,i.2.2.2.2.2.2.2.2.2)
 else
 (g77 (P2 b).2.1 b.1 b.2.1 b.2.2.1).bind fun e=>
 (g78 (dg b).1 (dg b).2.1 (dh b).1 (dh b).2.1 (P2 b).1 e (d2 (P2 b)).1 (d2 (P2 b)).2.1 (d4 (P2 b)).1 (d4 (P2 b)).2).bind fun j=>
 Xa (0,j.1,j.2.1,j.2.2.1,j.2.2.2.1,(d4 j).1,(d4 j).2.1,(d6 j).1,(d6 j).2.1,(d8 j).1,j.2.2.2.2.2.2.2.2.2)
 else
 if P0 .eql f 4 then
 (g65 c.2.1 c.2.2.1 c.2.2.2.1 (d4 c).1 (d4 c).2.1 (d6 c).1 (d6 c).2.1 (d8 c).1 (d8 c).2.1 c.2.2.2.2.2.2.2.2.2.2 m).bind fun a=>
 if (!a.1) then
 Xa (1,a.2.1,a.2.2.1,a.2.2.2.1,(d4 a).1,(d4 a).2.1,(d6 a).1,(d6 a).2.1,(d8 a).1,(d8 a).2.1,a.2.2.2.2.2.2.2.2.2.2)
 else
 if P0 .lss n 0 then
 Xa (1,a.2.1,a.2.2.1,a.2.2.2.1,(d4 a).1,(d4 a).2.1,(d6 a).1,(d6 a).2.1,(d8 a).1,(d8 a).2.1,a.2.2.2.2.2.2.2.2.2.2)
 else
 if P0 .gtr n 7 then
 Xa (1,a.2.1,a.2.2.1,a.2.2.2.1,(d4 a).1,(d4 a).2.1,(d6 a).1,(d6 a).2.1,(d8 a).1,(d8 a).2.1,a.2.2.2.2.2.2.2.2.2.2)
 else
 if P0 .lss o 0 then
 Xa (1,a.2.1,a.2.2.1,a.2.2.2.1,(d4 a).1,(d4 a).2.1,(d6 a).1,(d6 a).2.1,(d8 a).1,(d8 a).2.1,a.2.2.2.2.2.2.2.2.2.2)
 else
 if P0 .geq o 32 then
 Xa (1,a.2.1,a.2.2.1,a.2.2.2.1,(d4 a).1,(d4 a).2.1,(d6 a).1,(d6 a).2.1,(d8 a).1,(d8 a).2.1,a.2.2.2.2.2.2.2.2.2.2)
 else
 if P0 .eql o k then
 Xa (1,a.2.1,a.2.2.1,a.2.2.2.1,(d4 a).1,(d4 a).2.1,(d6 a).1,(d6 a).2.1,(d8 a).1,(d8 a).2.1,a.2.2.2.2.2.2.2.2.2.2)
 else
 (g69 a.2.1 a.2.2.1 a.2.2.2.1 (d4 a).1 (d4 a).2.1 (d6 a).1 (d6 a).2.1 (d8 a).1 (d8 a).2.1 a.2.2.2.2.2.2.2.2.2.2 k l).bind fun b=>
 if (!(df b).2.1) then
 Xa (2,(dg b).1,(dg b).2.1,(dh b).1,(dh b).2.1,(P2 b).1,(P2 b).2.1,(d2 (P2 b)).1,(d2 (P2 b)).2.1,(d4 (P2 b)).1,(d4 (P2 b)).2)
 else
 if P0 .eql f 2 then
 (g73 (dg b).1 (dg b).2.1 (dh b).1 (dh b).2.1 (P2 b).1 (P2 b).2.1 (d2 (P2 b)).1 (d2 (P2 b)).2.1 (d4 (P2 b)).1 (d4 (P2 b)).2 k q b.1 b.2.1 b.2.2.1 b.2.2.2.1 (d4 b).1 (d4 b).2.1 (d6 b).1 (d6 b).2.1 (d8 b).1 (d8 b).2.1 (df b).1 f l m o n r s t u p v w).bind fun e=>
 Xa (e.1,e.2.1,e.2.2.1,e.2.2.2.1,(d4 e).1,(d4 e).2.1,(d6 e).1,(d6 e).2.1,(d8 e).1,(d8 e).2.1,e.2.2.2.2.2.2.2.2.2.2)
 else
 if P0 .eql f 3 then
 (g74 (dg b).1 (dg b).2.1 (dh b).1 (dh b).2.1 (P2 b).1 (P2 b).2.1 (d2 (P2 b)).1 (d2 (P2 b)).2.1 (d4 (P2 b)).1 (d4 (P2 b)).2 k q b.1 b.2.1 b.2.2.1 b.2.2.2.1 (d4 b).1 (d4 b).2.1 (d6 b).1 (d6 b).2.1 (d8 b).1 (d8 b).2.1 (df b).1 f l m o n r s t u p v w).bind fun e=>
 Xa (e.1,e.2.1,e.2.2.1,e.2.2.2.1,(d4 e).1,(d4 e).2.1,(d6 e).1,(d6 e).2.1,(d8 e).1,(d8 e).2.1,e.2.2.2.2.2.2.2.2.2.2)
 else
 if P0 .eql f 4 then
 (g75 (dg b).1 (dg b).2.1 (dh b).1 (dh b).2.1 (P2 b).1 (P2 b).2.1 (d2 (P2 b)).1 (d2 (P2 b)).2.1 (d4 (P2 b)).1 (d4 (P2 b)).2 k q b.1 b.2.1 b.2.2.1 b.2.2.2.1 (d4 b).1 (d4 b).2.1 (d6 b).1 (d6 b).2.1 (d8 b).1 (d8 b).2.1 (df b).1 f l m o n r s t u p v w).bind fun e=>
 Xa (e.1,e.2.1,e.2.2.1,e.2.2.2.1,(d4 e).1,(d4 e).2.1,(d6 e).1,(d6 e).2.1,(d8 e).1,(d8 e).2.1,e.2.2.2.2.2.2.2.2.2.2)
 else
 if P0 .eql f 5 then
 (g76 (P2 b).2.1 b.1 b.2.1 b.2.2.1).bind fun e=>
 (g78 (dg b).1 (dg b).2.1 (dh b).1 (dh b).2.1 (P2 b).1 e.1 (d2 (P2 b)).1 (d2 (P2 b)).2.1 (d4 (P2 b)).1 (d4 (P2 b)).2).bind fun i=>
 Xa (0,i.1,i.2.1,i.2.2.1,i.2.2.2.1,(d4 i).1,(d4 i).2.1,(d6 i).1,(d6 i).2.1,(d8 i).1,i.2.2.2.2.2.2.2.2.2)
 else
 (g77 (P2 b).2.1 b.1 b.2.1 b.2.2.1).bind fun e=>
 (g78 (dg b).1 (dg b).2.1 (dh b).1 (dh b).2.1 (P2 b).1 e (d2 (P2 b)).1 (d2 (P2 b)).2.1 (d4 (P2 b)).1 (d4 (P2 b)).2).bind fun j=>
 Xa (0,j.1,j.2.1,j.2.2.1,j.2.2.2.1,(d4 j).1,(d4 j).2.1,(d6 j).1,(d6 j).2.1,(d8 j).1,j.2.2.2.2.2.2.2.2.2)
 else
 (g69 c.2.1 c.2.2.1 c.2.2.2.1 (d4 c).1 (d4 c).2.1 (d6 c).1 (d6 c).2.1 (d8 c).1 (d8 c).2.1 c.2.2.2.2.2.2.2.2.2.2 k l).bind fun a=>
 if (!(df a).2.1) then
 Xa (2,(dg a).1,(dg a).2.1,(dh a).1,(dh a).2.1,(P2 a).1,(P2 a).2.1,(d2 (P2 a)).1,(d2 (P2 a)).2.1,(d4 (P2 a)).1,(d4 (P2 a)).2)
 else
 if P0 .eql f 2 then
 (g73 (dg a).1 (dg a).2.1 (dh a).1 (dh a).2.1 (P2 a).1 (P2 a).2.1 (d2 (P2 a)).1 (d2 (P2 a)).2.1 (d4 (P2 a)).1 (d4 (P2 a)).2 k q a.1 a.2.1 a.2.2.1 a.2.2.2.1 (d4 a).1 (d4 a).2.1 (d6 a).1 (d6 a).2.1 (d8 a).1 (d8 a).2.1 (df a).1 f l m o n r s t u p v w).bind fun d=>
 Xa (d.1,d.2.1,d.2.2.1,d.2.2.2.1,(d4 d).1,(d4 d).2.1,(d6 d).1,(d6 d).2.1,(d8 d).1,(d8 d).2.1,d.2.2.2.2.2.2.2.2.2.2)
 else
 if P0 .eql f 3 then
 (g74 (dg a).1 (dg a).2.1 (dh a).1 (dh a).2.1 (P2 a).1 (P2 a).2.1 (d2 (P2 a)).1 (d2 (P2 a)).2.1 (d4 (P2 a)).1 (d4 (P2 a)).2 k q a.1 a.2.1 a.2.2.1 a.2.2.2.1 (d4 a).1 (d4 a).2.1 (d6 a).1 (d6 a).2.1 (d8 a).1 (d8 a).2.1 (df a).1 f l m o n r s t u p v w).bind fun d=>
 Xa (d.1,d.2.1,d.2.2.1,d.2.2.2.1,(d4 d).1,(d4 d).2.1,(d6 d).1,(d6 d).2.1,(d8 d).1,(d8 d).2.1,d.2.2.2.2.2.2.2.2.2.2)
 else
 if P0 .eql f 4 then
 (g75 (dg a).1 (dg a).2.1 (dh a).1 (dh a).2.1 (P2 a).1 (P2 a).2.1 (d2 (P2 a)).1 (d2 (P2 a)).2.1 (d4 (P2 a)).1 (d4 (P2 a)).2 k q a.1 a.2.1 a.2.2.1 a.2.2.2.1 (d4 a).1 (d4 a).2.1 (d6 a).1 (d6 a).2.1 (d8 a).1 (d8 a).2.1 (df a).1 f l m o n r s t u p v w).bind fun d=>
 Xa (d.1,d.2.1,d.2.2.1,d.2.2.2.1,(d4 d).1,(d4 d).2.1,(d6 d).1,(d6 d).2.1,(d8 d).1,(d8 d).2.1,d.2.2.2.2.2.2.2.2.2.2)
 else
 if P0 .eql f 5 then
 (g76 (P2 a).2.1 a.1 a.2.1 a.2.2.1).bind fun d=>
 (g78 (dg a).1 (dg a).2.1 (dh a).1 (dh a).2.1 (P2 a).1 d.1 (d2 (P2 a)).1 (d2 (P2 a)).2.1 (d4 (P2 a)).1 (d4 (P2 a)).2).bind fun g=>
 Xa (0,g.1,g.2.1,g.2.2.1,g.2.2.2.1,(d4 g).1,(d4 g).2.1,(d6 g).1,(d6 g).2.1,(d8 g).1,g.2.2.2.2.2.2.2.2.2)
 else
 (g77 (P2 a).2.1 a.1 a.2.1 a.2.2.1).bind fun d=>
 (g78 (dg a).1 (dg a).2.1 (dh a).1 (dh a).2.1 (P2 a).1 d (d2 (P2 a)).1 (d2 (P2 a)).2.1 (d4 (P2 a)).1 (d4 (P2 a)).2).bind fun h=>
 Xa (0,h.1,h.2.1,h.2.2.1,h.2.2.2.1,(d4 h).1,(d4 h).2.1,(d6 h).1,(d6 h).2.1,(d8 h).1,h.2.2.2.2.2.2.2.2.2)):=by kernel_rfl
noncomputable def F11:Fn:=⟨89,[8],[(6,[(0,.box hs25),(1,.c (.int .i64)),(2,.c (.int .i64)),(7,.box hs22),(8,.box hs28),(9,.c (.int .i64))])],[0],0,[],[],Tryz.f11,[.box hs25,.c (.int .i64),.c (.int .i64),.agg hs22],[.agg hs28],[(33,F33.S),(34,F34.S),(35,F35.S),(36,F36.S),(37,F37.S),(38,F38.S)]⟩
def ZBk:F11.S.Ok Tryz.prog 11:=F11.ok Tryz.func11 ⟨Zz4,⟨ZBN,⟨ZBM,⟨ZCk,⟨ZBY,⟨ZBT,trivial⟩⟩⟩⟩⟩⟩
noncomputable def g11 (a:LL) (b c:Int) (d e f h j k m:LL) (n o p q r s t u v w x y z A:Int):Option (Qt27):=F11.S.g [.l a,.i b,.i c,.l d,.l e,.l f,.l h,.l j,.l k,.l m,.i n,.i o,.i p,.i q,.i r,.i s,.i t,.i u,.i v,.i w,.i x,.i y,.i z,.i A]
noncomputable def ZkU (k:Nat) (a:LL) (c d:Int) (e f g h j m n:LL) (o p q r s t u v w x y z A C D E G H J K L:Int) (M:Bool) (N O:Int):Option (Qt27):=F11.lp [0,1,1,1,1,1,0] 0 r0 k [.l a,.i c,.i d,.l e,.l f,.l g,.l h,.l j,.l m,.l n,.i o,.i p,.i q,.i r,.i s,.i t,.i u,.i v,.i w,.i x,.i y,.i z,.i A,.i C,.i D,.i E,.i G,.i H,.i J,.i K,.i L,.b M,.i N,.i O]
def Zjn (k:Nat) (d:LL) (e f:Int) (g h i j l m c:LL) (n z b o p q r s t u v w x y C D E G H J K:Int) (L:Bool) (M A:Int):ZkU (k+1) d e f g h i j l m c n z b o p q r s t u v w x y C D E G H J K L M A =
 (if P0 .lss A (Xg c:Int) then
 Zn c A [.int .i64,.int .i64] fun (a:Int×Int)=>
 if ((P0 .eql a.1 n)&&((P0 .eql a.2 z)&&true)) then
 Xa (1,0,0,0,0,0,0,Xb,0,d,e,f,g,h,i,j,l,m,c)
 else
 ZkU k d e f g h i j l m c n z b o p q r s t u v w x y C D E G H J K L M (P1 .add .i64 A 1)
 else
 if P0 .eql b 1 then
 (g34 d e f g h i j l m c n z b o p q r s t u v w x y).bind fun a=>
 Xa (a.1,0,0,0,0,0,0,Xb,0,a.2.1,a.2.2.1,a.2.2.2.1,(d4 a).1,(d4 a).2.1,(d6 a).1,(d6 a).2.1,(d8 a).1,(d8 a).2.1,a.2.2.2.2.2.2.2.2.2.2)
 else
 if P0 .eql b 7 then
 (g35 d e f g h i j l m c n b o p q r s t u v w x y).bind fun a=>
 Xa (a.1,a.2.1,a.2.2.1,a.2.2.2.1,(d4 a).1,(d4 a).2.1,(d6 a).1,(d6 a).2.1,(d8 a).1,(d8 a).2.1,(df a).1,(df a).2.1,(dg a).1,(dg a).2.1,(dh a).1,(dh a).2.1,(P2 a).1,(P2 a).2.1,(d2 (P2 a)))
 else
 if P0 .eql b 8 then
 (g36 d e f g h i j l m c n b o p q r s t u v w x y).bind fun a=>
 Xa (a.1,0,0,0,0,0,0,Xb,0,a.2.1,a.2.2.1,a.2.2.2.1,(d4 a).1,(d4 a).2.1,(d6 a).1,(d6 a).2.1,(d8 a).1,(d8 a).2.1,a.2.2.2.2.2.2.2.2.2.2)
 else
 if P0 .eql b 9 then
 (g36 d e f g h i j l m c n b o p q r s t u v w x y).bind fun a=>
 Xa (a.1,0,0,0,0,0,0,Xb,0,a.2.1,a.2.2.1,a.2.2.2.1,(d4 a).1,(d4 a).2.1,(d6 a).1,(d6 a).2.1,(d8 a).1,(d8 a).2.1,a.2.2.2.2.2.2.2.2.2.2)
 else
 if P0 .eql b 10 then
 (g37 d e f g h i j l m c n b o p q r s t u v w x y).bind fun a=>
 Xa (a.1,a.2.1,a.2.2.1,a.2.2.2.1,(d4 a).1,(d4 a).2.1,(d6 a).1,(d6 a).2.1,(d8 a).1,(d8 a).2.1,(df a).1,(df a).2.1,(dg a).1,(dg a).2.1,(dh a).1,(dh a).2.1,(P2 a).1,(P2 a).2.1,(d2 (P2 a)))
 else
 (g38 d e f g h i j l m c n z b o p q r s t u v w x y).bind fun a=>
 Xa (a.1,0,0,0,0,0,0,Xb,0,a.2.1,a.2.2.1,a.2.2.2.1,(d4 a).1,(d4 a).2.1,(d6 a).1,(d6 a).2.1,(d8 a).1,(d8 a).2.1,a.2.2.2.2.2.2.2.2.2.2)):=by kernel_rfl
def ZpW (e:LL) (f g:Int) (h i j k l m n:LL) (d b c o p q r s t u v w x y:Int):g11 e f g h i j k l m n d b c o p q r s t u v w x y =
 ((g33 e f g h i j k l m n d).bind fun a=>
 if (!a.1) then
 Xa (16,0,0,0,0,0,0,Xb,0,a.2.1,a.2.2.1,a.2.2.2.1,(d4 a).1,(d4 a).2.1,(d6 a).1,(d6 a).2.1,(d8 a).1,(d8 a).2.1,a.2.2.2.2.2.2.2.2.2.2)
 else
 if P0 .lss b 1 then
 Xa (1,0,0,0,0,0,0,Xb,0,a.2.1,a.2.2.1,a.2.2.2.1,(d4 a).1,(d4 a).2.1,(d6 a).1,(d6 a).2.1,(d8 a).1,(d8 a).2.1,a.2.2.2.2.2.2.2.2.2.2)
 else
 if P0 .gtr b 1073741824 then
 Xa (1,0,0,0,0,0,0,Xb,0,a.2.1,a.2.2.1,a.2.2.2.1,(d4 a).1,(d4 a).2.1,(d6 a).1,(d6 a).2.1,(d8 a).1,(d8 a).2.1,a.2.2.2.2.2.2.2.2.2.2)
 else
 if P0 .lss c 1 then
 Xa (1,0,0,0,0,0,0,Xb,0,a.2.1,a.2.2.1,a.2.2.2.1,(d4 a).1,(d4 a).2.1,(d6 a).1,(d6 a).2.1,(d8 a).1,(d8 a).2.1,a.2.2.2.2.2.2.2.2.2.2)
 else
 if P0 .gtr c 10 then
 Xa (1,0,0,0,0,0,0,Xb,0,a.2.1,a.2.2.1,a.2.2.2.1,(d4 a).1,(d4 a).2.1,(d6 a).1,(d6 a).2.1,(d8 a).1,(d8 a).2.1,a.2.2.2.2.2.2.2.2.2.2)
 else
 ZkU ZG a.2.1 a.2.2.1 a.2.2.2.1 (d4 a).1 (d4 a).2.1 (d6 a).1 (d6 a).2.1 (d8 a).1 (d8 a).2.1 a.2.2.2.2.2.2.2.2.2.2 d b c o p q r s t u v w x y 0 0 0 0 0 0 0 Xb 0 0):=by kernel_rfl
end Go.Proofs.YtnkmbgbpkgmbnaaGreat
