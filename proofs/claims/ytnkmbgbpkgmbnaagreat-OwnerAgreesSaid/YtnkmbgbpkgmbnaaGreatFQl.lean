import Derived.Test.YtnkmbgbpkgmbnaaGreatFQk
open Option renaming some→Xa
open Bool renaming false→Xb,true→Xc
open List renaming length→Xg,take→Xy,drop→Xz
open Int renaming toNat→Xh
open Go.IntKind renaming wrap→Xl
set_option linter.unusedVariables false
set_option linter.unusedSimpArgs false
set_option linter.defProp false
namespace Go.Proofs.YtnkmbgbpkgmbnaaGreat
open Go Go.AM
set_option maxRecDepth 100000
noncomputable def F6:Fn:=⟨16,[4],[],[],0,[],[],Tryz.f6,[.c (.int .i64),.c (.int .i64)],[.c (.int .i64)],[]⟩
def ok6:F6.S.Ok Tryz.prog 6:=F6.ok Tryz.func6
noncomputable def g6 (a b:Int):Option (Int):=F6.S.g [.i a,.i b]
def ZxM (b a:Int):g6 b a =
 (if P0 .lss a 1 then
 Xa (0)
 else
 Zl ((a:Int)≠0)<|
 if P0 .lss (P1 .rem .i64 b a) 0 then
 Xa ((P1 .add .i64 (P1 .rem .i64 b a) a))
 else
 Xa ((P1 .rem .i64 b a))):=by kernel_rfl
noncomputable def F21:Fn:=⟨32,[4],[],[],0,[],[],Tryz.f21,[.c (.int .i64),.c (.int .i64)],[.c (.int .i64)],[(6,F6.S)]⟩
def ZA2:F21.S.Ok Tryz.prog 21:=F21.ok Tryz.func21 ⟨ok6,trivial⟩
noncomputable def g21 (a b:Int):Option (Int):=F21.S.g [.i a,.i b]
def Zu7 (c a:Int):g21 c a =
 ((g6 a 3).bind fun d=>
 Zl ((0:Int)≤12)<|
 Zl ((3:Int)≠0)<|
 (g6 (P1 .quo .i64 a 3) 4096).bind fun e=>
 if P0 .eql c 32 then
 Zl ((9:Int)≠0)<|
 (g6 (P1 .quo .i64 a 9) 3).bind fun b=>
 Zl ((0:Int)≤22)<|
 Xa ((P1 .add .i64 (P1 .add .i64 (P1 .shl .i64 d 12) e) (P1 .shl .i64 b 22)))
 else
 Zl ((9:Int)≠0)<|
 (g6 (P1 .quo .i64 a 9) 3).bind fun b=>
 Zl ((0:Int)≤21)<|
 Zl ((27:Int)≠0)<|
 (g6 (P1 .quo .i64 a 27) 3).bind fun f=>
 Zl ((0:Int)≤30)<|
 Xa ((P1 .add .i64 (P1 .add .i64 (P1 .add .i64 (P1 .shl .i64 d 12) e) (P1 .shl .i64 b 21)) (P1 .shl .i64 f 30)))):=by kernel_rfl
noncomputable def F7:Fn:=⟨128,[6],[],[],0,[],[],Tryz.f7,[.agg [.slice 1,.int .i64,.int .i64,.slice 3,.slice 1],.c (.int .i64),.agg [.int .i64,.int .i64,.int .i64,.int .i64,.int .i64,.int .i64,.int .i64,.int .i64,.int .i64]],[.agg hs22],[(6,F6.S),(21,F21.S)]⟩
def ok7:F7.S.Ok Tryz.prog 7:=F7.ok Tryz.func7 ⟨ok6,⟨ZA2,trivial⟩⟩
noncomputable def g7 (a:LL) (b c:Int) (d e:LL) (f h j k m n o p q r:Int):Option (Qt33):=F7.S.g [.l a,.i b,.i c,.l d,.l e,.i f,.i h,.i j,.i k,.i m,.i n,.i o,.i p,.i q,.i r]
def Zzm (j:LL) (x l:Int) (m y:LL) (r s t u v n o k e w:Int):g7 j x l m y r s t u v n o k e w =
 ((g6 s 10).bind fun a=>
 (g6 t l).bind fun c=>
 (g6 u l).bind fun d=>
 (g6 n 8).bind fun f=>
 if P0 .eql (P1 .add .i64 1 a) 1 then
 (g6 o (Xg m:Int)).bind fun b=>
 Zn m b [.int .i64,.int .i64,.bool] fun (g:Int×Int×Bool)=>
 (g6 k 3).bind fun h=>
 (g6 e 4).bind fun p=>
 Zl ((0:Int)≤(Xl .u64 (P1 .add .i64 13 h)))<|
 Xa ((P1 .add .i64 1 a),c,d,0,f,0,(P1 .add .i64 13 h),0,(P1 .add .i64 g.1 (P1 .shl .i64 p (Xl .u64 (P1 .add .i64 13 h)))),0,0,0)
 else
 if P0 .eql (P1 .add .i64 1 a) 2 then
 (g6 o 6).bind fun b=>
 (g6 k 3).bind fun g=>
 Zn ((((((E0++[[I (P1 .add .i64 12 g)]])++[[I 12]])++[[I 12]])++[[I 6]])++[[I 10]])++[[I 16]]) (P1 .sub .i64 (P1 .add .i64 1 b) 1) [.int .i64] fun (i:Int)=>
 (g6 k 3).bind fun q=>
 (g6 w 3).bind fun h=>
 (g6 e 6).bind fun p=>
 Zl ((0:Int)≤(Xl .u64 i))<|
 Xa ((P1 .add .i64 1 a),c,d,0,f,(P1 .add .i64 1 b),i,q,(P1 .shl .i64 p (Xl .u64 i)),(P1 .add .i64 1 h),0,0)
 else
 if P0 .eql (P1 .add .i64 1 a) 4 then
 (g6 v (Xg j:Int)).bind fun b=>
 Xa ((P1 .add .i64 1 a),c,d,b,f,0,0,0,0,0,0,0)
 else
 if P0 .eql (P1 .add .i64 1 a) 8 then
 (g6 e 3).bind fun b=>
 Xa ((P1 .add .i64 1 a),c,d,0,f,0,0,0,0,0,b,0)
 else
 if P0 .eql (P1 .add .i64 1 a) 9 then
 (g6 e 3).bind fun b=>
 Xa ((P1 .add .i64 1 a),c,d,0,f,0,0,0,0,0,b,0)
 else
 if P0 .eql (P1 .add .i64 1 a) 10 then
 (g6 n 4).bind fun b=>
 (g6 r (Xg j:Int)).bind fun g=>
 Zn j g [.int .i64] fun (i:Int)=>
 (g21 i e).bind fun q=>
 Xa ((P1 .add .i64 1 a),c,d,0,b,0,0,0,0,0,0,q)
 else
 Xa ((P1 .add .i64 1 a),c,d,0,f,0,0,0,0,0,0,0)):=by kernel_rfl
noncomputable def F23:Fn:=⟨122,[6],[],[],0,[],[],Tryz.f23,[.c (.int .i64),.c (.int .i64),.agg hs22],[.c (.bool)],[]⟩
def ZA0:F23.S.Ok Tryz.prog 23:=F23.ok Tryz.func23
noncomputable def g23 (a b c d e f h j k l m n o p:Int):Option (Bool):=F23.S.g [.i a,.i b,.i c,.i d,.i e,.i f,.i h,.i j,.i k,.i l,.i m,.i n,.i o,.i p]
def ZuA (i b a d c h g j f k l e m n:Int):g23 i b a d c h g j f k l e m n =
 (if P0 .geq d 0 then
 if P0 .geq c 0 then
 if P0 .geq g 0 then
 if P0 .eql a 1 then
 if (!(P0 .lss c b)) then
 Xa (Xc)
 else
 if P0 .lss f 6 then
 Xa (Xc)
 else
 Xa ((P0 .gtr f 40))
 else
 if P0 .eql a 2 then
 if (!(P0 .lss d b)) then
 Xa (Xc)
 else
 if P0 .lss e 1 then
 Xa (Xc)
 else
 if P0 .gtr e 8 then
 Xa (Xc)
 else
 if P0 .lss c 0 then
 Xa (Xc)
 else
 Xa ((P0 .gtr c (P1 .sub .i64 b e)))
 else
 if P0 .eql a 3 then
 if (!(P0 .lss d b)) then
 Xa (Xc)
 else
 if (!(P0 .lss c b)) then
 Xa (Xc)
 else
 Xa ((!(P0 .leq g 7)))
 else
 if P0 .eql a 4 then
 if (!(P0 .lss d b)) then
 Xa (Xc)
 else
 if (!(P0 .lss c b)) then
 Xa (Xc)
 else
 if (!(P0 .leq g 7)) then
 Xa (Xc)
 else
 if P0 .lss h 0 then
 Xa (Xc)
 else
 if P0 .geq h 32 then
 Xa (Xc)
 else
 Xa ((P0 .eql h i))
 else
 Xa ((!(P0 .lss d b)))
 else
 if P0 .eql a 1 then
 if (!(P0 .lss c b)) then
 Xa (Xc)
 else
 if P0 .lss f 6 then
 Xa (Xc)
 else
 Xa ((P0 .gtr f 40))
 else
 if P0 .eql a 2 then
 if (!(P0 .lss d b)) then
 Xa (Xc)
 else
 if P0 .lss e 1 then
 Xa (Xc)
 else
 if P0 .gtr e 8 then
 Xa (Xc)
 else
 if P0 .lss c 0 then
 Xa (Xc)
 else
 Xa ((P0 .gtr c (P1 .sub .i64 b e)))
 else
 if P0 .eql a 3 then
 if (!(P0 .lss d b)) then
 Xa (Xc)
 else
 if (!(P0 .lss c b)) then
 Xa (Xc)
 else
 Xa (Xc)
 else
 if P0 .eql a 4 then
 if (!(P0 .lss d b)) then
 Xa (Xc)
 else
 if (!(P0 .lss c b)) then
 Xa (Xc)
 else
 Xa (Xc)
 else
 Xa ((!(P0 .lss d b)))
 else
 if P0 .geq g 0 then
 if P0 .eql a 1 then
 Xa (Xc)
 else
 if P0 .eql a 2 then
 if (!(P0 .lss d b)) then
 Xa (Xc)
 else
 if P0 .lss e 1 then
 Xa (Xc)
 else
 if P0 .gtr e 8 then
 Xa (Xc)
 else
 if P0 .lss c 0 then
 Xa (Xc)
 else
 Xa ((P0 .gtr c (P1 .sub .i64 b e)))
 else
 if P0 .eql a 3 then
 if (!(P0 .lss d b)) then
 Xa (Xc)
 else
 Xa (Xc)
 else
 if P0 .eql a 4 then
 if (!(P0 .lss d b)) then
 Xa (Xc)
 else
 Xa (Xc)
 else
 Xa ((!(P0 .lss d b)))
 else
 if P0 .eql a 1 then
 Xa (Xc)
 else
 if P0 .eql a 2 then
 if (!(P0 .lss d b)) then
 Xa (Xc)
 else
 if P0 .lss e 1 then
 Xa (Xc)
 else
 if P0 .gtr e 8 then
 Xa (Xc)
 else
 if P0 .lss c 0 then
 Xa (Xc)
 else
 Xa ((P0 .gtr c (P1 .sub .i64 b e)))
 else
 if P0 .eql a 3 then
 if (!(P0 .lss d b)) then
 Xa (Xc)
 else
 Xa (Xc)
 else
 if P0 .eql a 4 then
 if (!(P0 .lss d b)) then
 Xa (Xc)
 else
 Xa (Xc)
 else
 Xa ((!(P0 .lss d b)))
 else
 if P0 .geq c 0 then
 if P0 .geq g 0 then
 if P0 .eql a 1 then
 if (!(P0 .lss c b)) then
 Xa (Xc)
 else
 if P0 .lss f 6 then
 Xa (Xc)
 else
 Xa ((P0 .gtr f 40))
 else
 if P0 .eql a 2 then
 Xa (Xc)
 else
 if P0 .eql a 3 then
 Xa (Xc)
 else
 if P0 .eql a 4 then
 Xa (Xc)
 else
 Xa (Xc)
 else
 if P0 .eql a 1 then
 if (!(P0 .lss c b)) then
 Xa (Xc)
 else
 if P0 .lss f 6 then
 Xa (Xc)
 else
 Xa ((P0 .gtr f 40))
 else
 if P0 .eql a 2 then
 Xa (Xc)
 else
 if P0 .eql a 3 then
 Xa (Xc)
 else
 if P0 .eql a 4 then
 Xa (Xc)
 else
 Xa (Xc)
 else
 if P0 .geq g 0 then
 if P0 .eql a 1 then
 Xa (Xc)
 else
 if P0 .eql a 2 then
 Xa (Xc)
 else
 if P0 .eql a 3 then
 Xa (Xc)
 else
 if P0 .eql a 4 then
 Xa (Xc)
 else
 Xa (Xc)
 else
 if P0 .eql a 1 then
 Xa (Xc)
 else
 if P0 .eql a 2 then
 Xa (Xc)
 else
 if P0 .eql a 3 then
 Xa (Xc)
 else
 if P0 .eql a 4 then
 Xa (Xc)
 else
 Xa (Xc)):=by kernel_rfl
noncomputable def F60:Fn:=⟨44,[4],[(2,[(0,.c (.slice 1)),(1,.c (.int .i64)),(5,.c (.int .i64))])],[],0,[],[],Tryz.f60,[.c (.slice 1),.c (.int .i64)],[.c (.slice 1)],[]⟩
def ZB0:F60.S.Ok Tryz.prog 60:=F60.ok Tryz.func60
noncomputable def g60 (a:LL) (b:Int):Option (LL):=F60.S.g [.l a,.i b]
noncomputable def Zj2 (k:Nat) (a:LL) (b c:Int):Option (LL):=F60.lp [0] 0 r0 k [.l a,.i b,.i c]
def ZiG (k:Nat) (b:LL) (c a:Int):Zj2 (k+1) b c a =
 (if P0 .lss a (Xg b:Int) then
 Zn b a [.int .i64] fun (d:Int)=>
 if P0 .lss d c then
 Zj2 k b c (P1 .add .i64 a 1)
 else
 if P0 .lss a (Xg b:Int) then
 Zn b a [.int .i64] fun (e:Int)=>
 if P0 .eql e c then
 Xa (b)
 else
 Zl ((0:Int)≤a)<|
 Zl ((a:Int)≤(Xg b:Int))<|
 Zl (ZB E0 (Xy (Xh a) b) 8)<|
 Zl (ZB (Xy (Xh a) b) (E0++[[I c]]) 8)<|
 Zl ((0:Int)≤a)<|
 Zl ((a:Int)≤(Xg b:Int))<|
 Zl (ZB ((Xy (Xh a) b)++(E0++[[I c]])) (Xz (Xh a) b) 8)<|
 Xa ((((Xy (Xh a) b)++(E0++[[I c]]))++(Xz (Xh a) b)))
 else
 Zl ((0:Int)≤a)<|
 Zl ((a:Int)≤(Xg b:Int))<|
 Zl (ZB E0 (Xy (Xh a) b) 8)<|
 Zl (ZB (Xy (Xh a) b) (E0++[[I c]]) 8)<|
 Zl ((0:Int)≤a)<|
 Zl ((a:Int)≤(Xg b:Int))<|
 Zl (ZB ((Xy (Xh a) b)++(E0++[[I c]])) (Xz (Xh a) b) 8)<|
 Xa ((((Xy (Xh a) b)++(E0++[[I c]]))++(Xz (Xh a) b)))
 else
 if P0 .lss a (Xg b:Int) then
 Zn b a [.int .i64] fun (d:Int)=>
 if P0 .eql d c then
 Xa (b)
 else
 Zl ((0:Int)≤a)<|
 Zl ((a:Int)≤(Xg b:Int))<|
 Zl (ZB E0 (Xy (Xh a) b) 8)<|
 Zl (ZB (Xy (Xh a) b) (E0++[[I c]]) 8)<|
 Zl ((0:Int)≤a)<|
 Zl ((a:Int)≤(Xg b:Int))<|
 Zl (ZB ((Xy (Xh a) b)++(E0++[[I c]])) (Xz (Xh a) b) 8)<|
 Xa ((((Xy (Xh a) b)++(E0++[[I c]]))++(Xz (Xh a) b)))
 else
 Zl ((0:Int)≤a)<|
 Zl ((a:Int)≤(Xg b:Int))<|
 Zl (ZB E0 (Xy (Xh a) b) 8)<|
 Zl (ZB (Xy (Xh a) b) (E0++[[I c]]) 8)<|
 Zl ((0:Int)≤a)<|
 Zl ((a:Int)≤(Xg b:Int))<|
 Zl (ZB ((Xy (Xh a) b)++(E0++[[I c]])) (Xz (Xh a) b) 8)<|
 Xa ((((Xy (Xh a) b)++(E0++[[I c]]))++(Xz (Xh a) b)))):=by kernel_rfl
def Zu8 (a:LL) (b:Int):g60 a b =
 (Zj2 ZG a b 0):=by kernel_rfl
noncomputable def F24:Fn:=⟨42,[2],[(8,[(1,.box hs22),(3,.c (.slice 1)),(4,.c (.int .i64))])],[],0,[],[],Tryz.f24,[.agg hs22],[.c (.slice 1)],[(60,F60.S)]⟩
def ZBq:F24.S.Ok Tryz.prog 24:=F24.ok Tryz.func24 ⟨ZB0,trivial⟩
noncomputable def g24 (a b c d e f h j k l m n:Int):Option (LL):=F24.S.g [.i a,.i b,.i c,.i d,.i e,.i f,.i h,.i j,.i k,.i l,.i m,.i n]
noncomputable def Zpj (k:Nat) (a b c d e f g h j m n o:Int) (p:LL) (q:Int):Option (LL):=F24.lp [1,0,0] 0 r0 k [.i a,.i b,.i c,.i d,.i e,.i f,.i g,.i h,.i j,.i m,.i n,.i o,.l p,.i q]
def ZiX (k:Nat) (g b c h i j l m n d o p:Int) (e:LL) (a:Int):Zpj (k+1) g b c h i j l m n d o p e a =
 (if P0 .lss a d then
 (g60 e (P1 .add .i64 c a)).bind fun f=>
 Zpj k g b c h i j l m n d o p f (P1 .add .i64 a 1)
 else
 (g60 e b).bind fun f=>
 Xa (f)):=by kernel_rfl
def ZvK (a b c d e f g h i j k l:Int):g24 a b c d e f g h i j k l =
 (if P0 .eql a 1 then
 Xa ((E0++[[I c]]))
 else
 if P0 .eql a 2 then
 Zpj ZG a b c d e f g h i j k l E0 0
 else
 if P0 .eql a 3 then
 (g60 (E0++[[I b]]) c).bind fun m=>
 Xa (m)
 else
 Xa ((E0++[[I b]]))):=by kernel_rfl
noncomputable def F25:Fn:=⟨12,[2],[],[],0,[],[],Tryz.f25,[.agg hs20],[.c (.bool)],[]⟩
def ZBS:F25.S.Ok Tryz.prog 25:=F25.ok Tryz.func25
noncomputable def g25 (a c d:Int) (e:LL) (f h j k m n:Int) (o:Bool) (p q r s:Int):Option (Bool):=F25.S.g [.i a,.i c,.i d,.l e,.i f,.i h,.i j,.i k,.i m,.i n,.b o,.i p,.i q,.i r,.i s]
def Zt7 (e f g:Int) (h:LL) (i j k l m n:Int) (o:Bool) (a b c d:Int):g25 e f g h i j k l m n o a b c d =
 (if P0 .neq a 0 then
 Xa (Xc)
 else
 Xa ((!((P0 .eql b 0)&&((P0 .eql c 0)&&((P0 .eql d 0)&&Xc)))))):=by kernel_rfl
noncomputable def F29:Fn:=⟨8,[2],[],[],0,[],[],Tryz.f29,[.agg hs20],[.c (.bool)],[]⟩
def ZAa:F29.S.Ok Tryz.prog 29:=F29.ok Tryz.func29
noncomputable def g29 (a c d:Int) (e:LL) (f h j k m n:Int) (o:Bool) (p q r s:Int):Option (Bool):=F29.S.g [.i a,.i c,.i d,.l e,.i f,.i h,.i j,.i k,.i m,.i n,.b o,.i p,.i q,.i r,.i s]
def ZuJ (a b c:Int) (d:LL) (e f g h i j:Int) (k:Bool) (l m n o:Int):g29 a b c d e f g h i j k l m n o =
 (Xa (((P0 .eql a 0)&&((P0 .eql b 0)&&((P0 .eql c 0)&&Xc))))):=by kernel_rfl
noncomputable def F28:Fn:=⟨21,[6],[(2,[(0,.c (.slice 15)),(1,.c (.int .i64)),(2,.c (.int .i64)),(7,.c (.int .i64))])],[],0,[],[],Tryz.f28,[.c (.slice 15),.c (.int .i64),.c (.int .i64)],[.c (.bool)],[(29,F29.S)]⟩
def ZAH:F28.S.Ok Tryz.prog 28:=F28.ok Tryz.func28 ⟨ZAa,trivial⟩
noncomputable def g28 (a:LL) (b c:Int):Option (Bool):=F28.S.g [.l a,.i b,.i c]
noncomputable def Zkv (k:Nat) (a:LL) (b c d:Int):Option (Bool):=F28.lp [0] 0 r0 k [.l a,.i b,.i c,.i d]
def ZiH (k:Nat) (c:LL) (d e b:Int):Zkv (k+1) c d e b =
 (if P0 .lss b e then
 Zn c (P1 .add .i64 d b) hs20 fun (a:Qt29)=>
 (g29 a.1 a.2.1 a.2.2.1 a.2.2.2.1 (d4 a).1 (d4 a).2.1 (d6 a).1 (d6 a).2.1 (d8 a).1 (d8 a).2.1 (df a).1 (df a).2.1 (dg a).1 (dg a).2.1 (dh a)).bind fun f=>
 if (!f) then
 Xa (Xc)
 else
 Zkv k c d e (P1 .add .i64 b 1)
 else
 Xa (Xb)):=by kernel_rfl
def Zt1 (a:LL) (b c:Int):g28 a b c =
 (Zkv ZG a b c 0):=by kernel_rfl
noncomputable def F31:Fn:=⟨94,[10],[],[],0,[],[],Tryz.f31,[.c (.int .i64),.c (.slice 15),.c (.slice 1),.agg hs24,.agg hs22],[.c (.int .i64)],[(63,F63.S),(28,F28.S),(64,F64.S)]⟩
def ZBv:F31.S.Ok Tryz.prog 31:=F31.ok Tryz.func31 ⟨ZAc,⟨ZAH,⟨Zz1,trivial⟩⟩⟩
noncomputable def g31 (a:Int) (c d:LL) (e f h:Int) (j:LL) (k m n o p q:Int) (r:Bool) (s t u v w x y z A C D E:Int):Option (Int):=F31.S.g [.i a,.l c,.l d,.i e,.i f,.i h,.l j,.i k,.i m,.i n,.i o,.i p,.i q,.b r,.i s,.i t,.i u,.i v,.i w,.i x,.i y,.i z,.i A,.i C,.i D,.i E]
def Zup (i:Int) (e j:LL) (u v w:Int) (c:LL) (b k l f m n:Int) (o:Bool) (d x g p y q r s t h z A:Int):g31 i e j u v w c b k l f m n o d x g p y q r s t h z A =
 (if P0 .eql d 2 then
 (g63 b k l f m n o q r s i t h).bind fun a=>
 if P0 .neq a.2 0 then
 Xa (a.2)
 else
 (g28 e g h).bind fun C=>
 if C then
 Xa (3)
 else
 if P0 .geq (Xg c:Int) 8 then
 Xa (9)
 else
 Xa (0)
 else
 if P0 .eql d 3 then
 (g28 e g 1).bind fun a=>
 if a then
 Xa (3)
 else
 if P0 .geq (Xg c:Int) 8 then
 Xa (9)
 else
 Xa (0)
 else
 if P0 .eql d 4 then
 if P0 .eql b 3 then
 Xa (5)
 else
 if P0 .eql b 5 then
 Xa (5)
 else
 if P0 .eql b 6 then
 Xa (5)
 else
 if P0 .eql (P1 .and .i64 f 4) 0 then
 Xa (8)
 else
 if P0 .geq (Xg c:Int) 8 then
 Xa (9)
 else
 (g64 j p).bind fun a=>
 if (!a) then
 Xa (10)
 else
 Xa (0)
 else
 Xa (0)):=by kernel_rfl
noncomputable def F9:Fn:=⟨153,[14,15,16],[(6,[(0,.c (.int .i64)),(1,.c (.int .i64)),(2,.c (.int .i64)),(3,.c (.slice 15)),(4,.c (.slice 3)),(5,.c (.slice 1)),(13,.box hs22),(14,.box hs9),(17,.box hs9),(18,.c (.slice 1)),(19,.c (.int .i64))])],[],0,[],[],Tryz.f9,[.c (.int .i64),.c (.int .i64),.c (.int .i64),.c (.slice 15),.c (.slice 3),.c (.slice 1),.agg hs22],[.agg hs9,.c (.slice 1),.c (.int .i64)],[(23,F23.S),(24,F24.S),(25,F25.S),(26,F26.S),(27,F27.S),(28,F28.S),(29,F29.S),(30,F30.S),(31,F31.S),(32,F32.S)]⟩
def ok9:F9.S.Ok Tryz.prog 9:=F9.ok Tryz.func9 ⟨ZA0,⟨ZBq,⟨ZBS,⟨ZsR,⟨ZAC,⟨ZAH,⟨ZAa,⟨ZwE,⟨ZBv,⟨Zyc,trivial⟩⟩⟩⟩⟩⟩⟩⟩⟩⟩
noncomputable def g9 (a b c:Int) (d e f:LL) (h j k m n o p q r s t u:Int):Option (Qt17):=F9.S.g [.i a,.i b,.i c,.l d,.l e,.l f,.i h,.i j,.i k,.i m,.i n,.i o,.i p,.i q,.i r,.i s,.i t,.i u]
noncomputable def Zp4 (k:Nat) (a c d:Int) (e f g:LL) (h j m n o p q r s t u v w x y z A C D E G H J K L M N O P Q R T:Int) (U:LL) (V W X Y Z S:Int) (ab:Bool) (ac ad ae af ag ah ai aj ak al am an ao ap aq ar au av aw ax:Int) (ay:LL) (az a0 a1 a2 a3 a4:Int) (a5:Bool) (a6:LL) (a7:Int):Option (Qt17):=F9.lp [1,1,1,1,1,1,0,1,0,1,2] 0 r0 k [.i a,.i c,.i d,.l e,.l f,.l g,.i h,.i j,.i m,.i n,.i o,.i p,.i q,.i r,.i s,.i t,.i u,.i v,.i w,.i x,.i y,.i z,.i A,.i C,.i D,.i E,.i G,.i H,.i J,.i K,.i L,.i M,.i N,.i O,.i P,.i Q,.i R,.i T,.l U,.i V,.i W,.i X,.i Y,.i Z,.i S,.b ab,.i ac,.i ad,.i ae,.i af,.i ag,.i ah,.i ai,.i aj,.i ak,.i al,.i am,.i an,.i ao,.i ap,.i aq,.i ar,.i au,.i av,.i aw,.i ax,.l ay,.i az,.i a0,.i a1,.i a2,.i a3,.i a4,.b a5,.l a6,.i a7]
def Zno (k:Nat) (S x1 R:Int) (K x4 x5:LL) (O L P T U V M W N X Y Z af ag ah ai aj ak al am an ao ap aq ar au av aw ax ay az a0:Int) (a1:LL) (a2 a3 a4 a5 a6 a7:Int) (a8:Bool) (e f g h i j l m n o p q r s t u v w x y:Int) (z:LL) (A C D E G H:Int) (J:Bool) (Q:LL) (ad:Int):Zp4 (k+1) S x1 R K x4 x5 O L P T U V M W N X Y Z af ag ah ai aj ak al am an ao ap aq ar au av aw ax ay az a0 a1 a2 a3 a4 a5 a6 a7 a8 e f g h i j l m n o p q r s t u v w x y z A C D E G H J Q ad =
 (if P0 .lss ad (Xg Q:Int) then
 Zn Q ad [.int .i64] fun (b:Int)=>
 Zn K b hs20 fun (c:Qt29)=>
 (g25 c.1 c.2.1 c.2.2.1 c.2.2.2.1 (d4 c).1 (d4 c).2.1 (d6 c).1 (d6 c).2.1 (d8 c).1 (d8 c).2.1 (df c).1 (df c).2.1 (dg c).1 (dg c).2.1 (dh c)).bind fun d=>
 if d then
 Xa (e,f,g,h,i,j,l,m,n,o,p,q,r,s,t,u,v,w,x,y,z,A,C,D,E,G,H,J,E0,4)
 else
 Zp4 k S x1 R K x4 x5 O L P T U V M W N X Y Z af ag ah ai aj ak al am an ao ap aq ar au av aw ax ay az a0 a1 a2 a3 a4 a5 a6 a7 a8 e f g h i j l m n o p q r s t u v w x y z A C D E G H J Q (P1 .add .i64 ad 1)
 else
 if P0 .eql O 1 then
 (g26 N M).bind fun b=>
 if (!b) then
 Xa (e,f,g,h,i,j,l,m,n,o,p,q,r,s,t,u,v,w,x,y,z,A,C,D,E,G,H,J,E0,6)
 else
 (g27 x4 N M).bind fun c=>
 if P0 .lss c 0 then
 Xa (e,f,g,h,i,j,l,m,n,o,p,q,r,s,t,u,v,w,x,y,z,A,C,D,E,G,H,J,E0,11)
 else
 (g28 K P 1).bind fun bc=>
 if bc then
 Xa (e,f,g,h,i,j,l,m,n,o,p,q,r,s,t,u,v,w,x,y,z,A,C,D,E,G,H,J,E0,3)
 else
 Xa (S,x1,0,O,L,P,T,U,V,M,W,N,X,Y,Z,c,R,0,0,0,E0,0,0,0,0,0,0,Xb,Q,0)
 else
 Zn K L hs20 fun (b:Qt29)=>
 (g29 b.1 b.2.1 b.2.2.1 b.2.2.2.1 (d4 b).1 (d4 b).2.1 (d6 b).1 (d6 b).2.1 (d8 b).1 (d8 b).2.1 (df b).1 (df b).2.1 (dg b).1 (dg b).2.1 (dh b)).bind fun bd=>
 if bd then
 Xa (e,f,g,h,i,j,l,m,n,o,p,q,r,s,t,u,v,w,x,y,z,A,C,D,E,G,H,J,E0,2)
 else
 Zn K L hs20 fun (d:Qt29)=>
 (g30 d.1 d.2.1 d.2.2.1 d.2.2.2.1 (d4 d).1 (d4 d).2.1 (d6 d).1 (d6 d).2.1 (d8 d).1 (d8 d).2.1 (df d).1).bind fun a=>
 (g31 R K x5 a.1 a.2.1 a.2.2.1 a.2.2.2.1 (d4 a).1 (d4 a).2.1 (d6 a).1 (d6 a).2.1 (d8 a).1 (d8 a).2.1 a.2.2.2.2.2.2.2.2.2.2 O L P T U V M W N X Y Z).bind fun a9=>
 if P0 .neq a9 0 then
 Xa (e,f,g,h,i,j,l,m,n,o,p,q,r,s,t,u,v,w,x,y,z,A,C,D,E,G,H,J,E0,a9)
 else
 (g32 (d4 a).1 (d4 a).2.1 (d6 a).1 (d6 a).2.1 (d8 a).1 (d8 a).2.1 a.2.2.2.2.2.2.2.2.2.2).bind fun ba=>
 (g27 x4 ba.1 ba.2).bind fun bb=>
 if P0 .lss bb 0 then
 Xa (e,f,g,h,i,j,l,m,n,o,p,q,r,s,t,u,v,w,x,y,z,A,C,D,E,G,H,J,E0,11)
 else
 Xa (S,x1,0,O,L,P,T,U,V,M,W,N,X,Y,Z,bb,R,a.1,a.2.1,a.2.2.1,a.2.2.2.1,(d4 a).1,(d4 a).2.1,(d6 a).1,(d6 a).2.1,(d8 a).1,(d8 a).2.1,a.2.2.2.2.2.2.2.2.2.2,Q,0)):=by kernel_rfl
def Zv9 (b n o:Int) (p q r:LL) (a c d e f g h i j k l m:Int):g9 b n o p q r a c d e f g h i j k l m =
 (if P0 .lss a 1 then
 Xa (0,0,0,0,0,0,0,0,0,0,0,0,0,0,0,0,0,0,0,0,E0,0,0,0,0,0,0,Xb,E0,1)
 else
 if P0 .gtr a 6 then
 Xa (0,0,0,0,0,0,0,0,0,0,0,0,0,0,0,0,0,0,0,0,E0,0,0,0,0,0,0,Xb,E0,1)
 else
 if P0 .lss b 0 then
 Xa (0,0,0,0,0,0,0,0,0,0,0,0,0,0,0,0,0,0,0,0,E0,0,0,0,0,0,0,Xb,E0,1)
 else
 if P0 .geq b 32 then
 Xa (0,0,0,0,0,0,0,0,0,0,0,0,0,0,0,0,0,0,0,0,E0,0,0,0,0,0,0,Xb,E0,1)
 else
 if P0 .lss n 1 then
 Xa (0,0,0,0,0,0,0,0,0,0,0,0,0,0,0,0,0,0,0,0,E0,0,0,0,0,0,0,Xb,E0,1)
 else
 if P0 .gtr n 1073741824 then
 Xa (0,0,0,0,0,0,0,0,0,0,0,0,0,0,0,0,0,0,0,0,E0,0,0,0,0,0,0,Xb,E0,1)
 else
 if P0 .neq o 32 then
 if P0 .neq o 39 then
 Xa (0,0,0,0,0,0,0,0,0,0,0,0,0,0,0,0,0,0,0,0,E0,0,0,0,0,0,0,Xb,E0,1)
 else
 (g23 b (Xg p:Int) a c d e f g h i j k l m).bind fun s=>
 if s then
 Xa (0,0,0,0,0,0,0,0,0,0,0,0,0,0,0,0,0,0,0,0,E0,0,0,0,0,0,0,Xb,E0,1)
 else
 (g24 a c d e f g h i j k l m).bind fun t=>
 Zp4 ZG b n o p q r a c d e f g h i j k l m 0 0 0 0 0 0 0 0 0 0 0 0 0 0 0 0 0 0 0 0 E0 0 0 0 0 0 0 Xb 0 0 0 0 0 0 0 0 0 0 0 0 0 0 0 0 0 0 0 0 E0 0 0 0 0 0 0 Xb t 0
 else
 (g23 b (Xg p:Int) a c d e f g h i j k l m).bind fun s=>
 if s then
 Xa (0,0,0,0,0,0,0,0,0,0,0,0,0,0,0,0,0,0,0,0,E0,0,0,0,0,0,0,Xb,E0,1)
 else
 (g24 a c d e f g h i j k l m).bind fun t=>
 Zp4 ZG b n o p q r a c d e f g h i j k l m 0 0 0 0 0 0 0 0 0 0 0 0 0 0 0 0 0 0 0 0 E0 0 0 0 0 0 0 Xb 0 0 0 0 0 0 0 0 0 0 0 0 0 0 0 0 0 0 0 0 E0 0 0 0 0 0 0 Xb t 0):=by kernel_rfl
end Go.Proofs.YtnkmbgbpkgmbnaaGreat
