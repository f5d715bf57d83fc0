import Derived.Test.YtnkmbgbpkgmbnaaGreatM5
import Derived.Test.YtnkmbgbpkgmbnaaGreatM6
import Derived.Test.YtnkmbgbpkgmbnaaGreatFQn
open Option renaming some→Xa,bind_some→Xj
open Bool renaming false→Xb,true→Xc,and_eq_true→Xk,not_eq_true'→XJ,false_eq_true→XQ,not_eq_true→XT,or_eq_true→XX,not_eq_false→Ub,not_eq_false'→Ue,true_eq_false→Ug,eq_false_iff→UL
open Option.some renaming injEq→Xf
open List renaming length→Xg,length_map→Xi,getElem?_eq_getElem→Xm,getElem?_map→Xp,mem_append→Xq,mem_cons→Xr,mem_map→Xs,length_take→Xu,replicate→Xv,drop→Xz,getElem_mem→XC,mem_singleton→XF,range→XK,mem_of_mem_take→XL,length_cons→XO,mem_of_mem_drop→XR,nil_append→X9,take_of_length_le→Uc,mem_iff_getElem→Ud,mem_range→Uf,eq_nil_of_length_eq_zero→Uh,map_take→Um,map_drop→Uq,getElem?_eq_none→Ur,map_append→Us,any_eq_true→Ut,mem_filter→Uu,pairwise_iff_getElem→UB,any_eq_false→UC,mem_cons_of_mem→UD,mem_of_find?_eq_some→UE,append_nil→UG,take_append_drop→UH,mem_cons_self→UX,length_filter_le→U9,pairwise_cons→Ta,drop_eq_getElem_cons→Tj,getElem_take→Tk,pairwise_singleton→Ty,filter_sublist→Tz,length_singleton→TO,take_succ_eq_append_getElem→TP,filter_eq_self→T3
open Int renaming toNat→Xh,toNat_natCast→Ua,le_refl→Uk,ofNat_lt→UM
open Go.IntKind renaming wrap→Xl
open Nat renaming le_refl→Xt,le_trans→XN,zero_le→X7,lt_succ_self→Ul,not_lt_zero→UA
open Prod.mk renaming injEq→Xw
set_option linter.unusedVariables false
set_option linter.unusedSimpArgs false
set_option linter.defProp false
namespace Go.Proofs.YtnkmbgbpkgmbnaaGreat
open Go Go.AM
set_option maxRecDepth 100000
set_option synthInstance.maxSize 2000
noncomputable def Zkw (k:Nat) (N:Int) (O:Int) (Q:Int) (R:Bool) (S:LL) (T:LL) (U:Int) (W:Int) (X:Int) (Y:Int) (a:Int) (c:Int) (d:Int) (e:Int) (f:Int) (g:Int) (h:Int) (j:Int) (m:Int) (n:Int) (o:Int) (p:Int) (q:Int) (r:Int) (s:Int) (t:Int) (u:LL) (v:Int) (w:Int) (x:Int) (y:Int) (z:Int) (A:Int) (C:Bool) (D:Int) (E:LL) (G:LL) (H:LL) (J:LL) (L:Int) (M:Int):Option (LL×LL×Int×Int×Int×Bool×LL×LL×Int×Int×Int×Int×Int×Int×Int×Int×Int×Int×Int×Int×Int×Int×Int×Int×Int×Int×Int×Int×LL×Int×Int×Int×Int×Int×Int×Bool×Int×LL×LL×LL):=F16.lp [0,1,1,1,1,0,0,1,0,0,0,1,0,0,2,0] 0 r0 k [.i N,.i O,.i Q,.b R,.l S,.l T,.i U,.i W,.i X,.i Y,.i a,.i c,.i d,.i e,.i f,.i g,.i h,.i j,.i m,.i n,.i o,.i p,.i q,.i r,.i s,.i t,.l u,.i v,.i w,.i x,.i y,.i z,.i A,.b C,.i D,.l E,.l G,.l H,.l J,.i L,.i M]
def Zo5 (k:Nat) (O:Int) (Q:Int) (R:Int) (S:Bool) (T:LL) (U:LL) (c:Int) (d:Int) (e:Int) (W:Int) (f:Int) (g:Int) (h:Int) (i:Int) (j:Int) (l:Int) (m:Int) (n:Int) (o:Int) (p:Int) (q:Int) (r:Int) (s:Int) (t:Int) (u:Int) (v:Int) (w:LL) (x:Int) (y:Int) (z:Int) (A:Int) (C:Int) (D:Int) (E:Bool) (G:Int) (H:LL) (J:LL) (L:LL) (M:LL) (N:Int) (b:Int):Zkw (k+1) O Q R S T U c d e W f g h i j l m n o p q r s t u v w x y z A C D E G H J L M N b =
 (if (P0 .lss b N)=Xc then
 Zn M b [.int .i64,.int .i64,.int .i64] fun (a:Int×Int×Int)=>
 (g47 T a.1 a.2.1 a.2.2).bind fun (X:LL×Bool)=>
 Zkw k O Q R S X.1 U c d e W f g h i j l m n o p q r s t u v w x y z A C D E G H J L M N (P1 .add .i64 b 1)
 else
 (g50 O Q R S T U c d e W f g h i j l m n o p q r s t u v w x y z A C D E G H J L 10).bind fun (a:LL×Int×Int×Int×Bool×LL×LL×Int×Int×Int×Int×Int×Int×Int×Int×Int×Int×Int×Int×Int×Int×Int×Int×Int×Int×Int×Int×LL×Int×Int×Int×Int×Int×Int×Bool×Int×LL×LL×LL)=>
 Zl (((d6 a).2.1:Int)≤c)<|
 Zl ((c:Int)≤(d6 a).2.1)<|
 Zl (((d8 a).1:Int)≤d)<|
 Zl ((d:Int)≤(d8 a).1)<|
 Zl (((d8 a).2.1:Int)≤e)<|
 Zl ((e:Int)≤(d8 a).2.1)<|
 Xa (a.1,(E0++[[I c,I d,I e,B Xc]]),a.2.1,a.2.2.1,a.2.2.2.1,(d4 a).1,(d4 a).2.1,(d6 a).1,c,d,e,(df a).1,(df a).2.1,(dg a).1,(dg a).2.1,(dh a).1,(dh a).2.1,(P2 a).1,(P2 a).2.1,a.2.2.2.2.2.2.2.2.2.2.2.2.2.2.2.2.2.2.1,a.2.2.2.2.2.2.2.2.2.2.2.2.2.2.2.2.2.2.2.1,a.2.2.2.2.2.2.2.2.2.2.2.2.2.2.2.2.2.2.2.2.1,a.2.2.2.2.2.2.2.2.2.2.2.2.2.2.2.2.2.2.2.2.2.1,a.2.2.2.2.2.2.2.2.2.2.2.2.2.2.2.2.2.2.2.2.2.2.1,a.2.2.2.2.2.2.2.2.2.2.2.2.2.2.2.2.2.2.2.2.2.2.2.1,a.2.2.2.2.2.2.2.2.2.2.2.2.2.2.2.2.2.2.2.2.2.2.2.2.1,a.2.2.2.2.2.2.2.2.2.2.2.2.2.2.2.2.2.2.2.2.2.2.2.2.2.1,a.2.2.2.2.2.2.2.2.2.2.2.2.2.2.2.2.2.2.2.2.2.2.2.2.2.2.1,a.2.2.2.2.2.2.2.2.2.2.2.2.2.2.2.2.2.2.2.2.2.2.2.2.2.2.2.1,a.2.2.2.2.2.2.2.2.2.2.2.2.2.2.2.2.2.2.2.2.2.2.2.2.2.2.2.2.1,a.2.2.2.2.2.2.2.2.2.2.2.2.2.2.2.2.2.2.2.2.2.2.2.2.2.2.2.2.2.1,a.2.2.2.2.2.2.2.2.2.2.2.2.2.2.2.2.2.2.2.2.2.2.2.2.2.2.2.2.2.2.1,a.2.2.2.2.2.2.2.2.2.2.2.2.2.2.2.2.2.2.2.2.2.2.2.2.2.2.2.2.2.2.2.1,(di a).1,(di a).2.1,a.2.2.2.2.2.2.2.2.2.2.2.2.2.2.2.2.2.2.2.2.2.2.2.2.2.2.2.2.2.2.2.2.2.2.1,a.2.2.2.2.2.2.2.2.2.2.2.2.2.2.2.2.2.2.2.2.2.2.2.2.2.2.2.2.2.2.2.2.2.2.2.1,a.2.2.2.2.2.2.2.2.2.2.2.2.2.2.2.2.2.2.2.2.2.2.2.2.2.2.2.2.2.2.2.2.2.2.2.2.1,a.2.2.2.2.2.2.2.2.2.2.2.2.2.2.2.2.2.2.2.2.2.2.2.2.2.2.2.2.2.2.2.2.2.2.2.2.2.1,a.2.2.2.2.2.2.2.2.2.2.2.2.2.2.2.2.2.2.2.2.2.2.2.2.2.2.2.2.2.2.2.2.2.2.2.2.2.2)):=by kernel_rfl
def Zt9 (b w pa c:LL) (r:Req) (f:Int):g16 0 262144 16 Xb b E0 r.id.c r.id.op r.id.k r.a.g r.a.r r.a.p r.a.c r.a.v r.a.o r.a.h r.a.f r.a.l r.a.n r.a.u r.a.w r.s r.i r.e.id.c r.e.id.op r.e.id.k (Zd r.e.q) r.e.d.g r.e.d.t r.e.d.h r.e.d.j r.e.d.i r.e.d.f r.e.d.m 1 w pa c 5 0 f 0 0 0 0 r.id.c r.id.op r.id.k 0 Xb 0 0 0 0 0 0 0 0 0 0 0 0 0 0 0 0 0 0 0 0 E0 0 0 0 0 0 0 Xb E0 E0 E0 E0 0 0 E0 E0 E0 E0 E0 E0 E0 E0 0 0 E0 E0 E0 E0 E0 E0 E0 E0 Xb 0 E0 E0 E0 E0 E0 E0 E0 E0 =
 ((g46 5 0 f 0 0 0 0 r.id.c r.id.op r.id.k 0 Xb 0 0 0 0 0 0 0 0 0 0 0 0 0 0 0 0 0 0 0 0 E0 0 0 0 0 0 0 Xb E0 E0 E0 E0 0 0 E0 E0 E0 E0 E0 E0 E0 E0 0 0 E0 E0 E0 E0 E0 E0 E0 E0 Xb 0 E0 E0 E0 E0 E0 E0 E0 E0).bind fun d=>
 if (!d)=Xc then
 Xa (E0,E0,0,262144,16,Xb,b,E0,r.id.c,r.id.op,r.id.k,r.a.g,r.a.r,r.a.p,r.a.c,r.a.v,r.a.o,r.a.h,r.a.f,r.a.l,r.a.n,r.a.u,r.a.w,r.s,r.i,r.e.id.c,r.e.id.op,r.e.id.k,(Zd r.e.q),r.e.d.g,r.e.d.t,r.e.d.h,r.e.d.j,r.e.d.i,r.e.d.f,r.e.d.m,1,w,pa,c)
 else
 if (!((P0 .eql r.id.c r.id.c)&&((P0 .eql r.id.op r.id.op)&&((P0 .eql r.id.k r.id.k)&&Xc))))=Xc then
 Xa (E0,E0,0,262144,16,Xb,b,E0,r.id.c,r.id.op,r.id.k,r.a.g,r.a.r,r.a.p,r.a.c,r.a.v,r.a.o,r.a.h,r.a.f,r.a.l,r.a.n,r.a.u,r.a.w,r.s,r.i,r.e.id.c,r.e.id.op,r.e.id.k,(Zd r.e.q),r.e.d.g,r.e.d.t,r.e.d.h,r.e.d.j,r.e.d.i,r.e.d.f,r.e.d.m,1,w,pa,c)
 else
 if (P0 .eql f r.a.c)=Xc then
 (g48 0 262144 16 Xb b E0 r.id.c r.id.op r.id.k r.a.g r.a.r r.a.p r.a.c r.a.v r.a.o r.a.h r.a.f r.a.l r.a.n r.a.u r.a.w r.s r.i r.e.id.c r.e.id.op r.e.id.k (Zd r.e.q) r.e.d.g r.e.d.t r.e.d.h r.e.d.j r.e.d.i r.e.d.f r.e.d.m 1 w pa c 0 Xc E0).bind fun a=>
 Xa (a.1,E0,a.2.1,a.2.2.1,a.2.2.2.1,(d4 a).1,(d4 a).2.1,(d6 a).1,(d6 a).2.1,(d8 a).1,(d8 a).2.1,(df a).1,(df a).2.1,(dg a).1,(dg a).2.1,(dh a).1,(dh a).2.1,(P2 a).1,(P2 a).2.1,(d2 (P2 a)).1,(d2 (P2 a)).2.1,(d4 (P2 a)).1,(d4 (P2 a)).2.1,(d6 (P2 a)).1,(d6 (P2 a)).2.1,(d8 (P2 a)).1,(d8 (P2 a)).2.1,(df (P2 a)).1,(df (P2 a)).2.1,(dg (P2 a)).1,(dg (P2 a)).2.1,(dh (P2 a)).1,(dh (P2 a)).2.1,(di a).1,(di a).2.1,(d2 (di a)).1,(d2 (di a)).2.1,(d4 (di a)).1,(d4 (di a)).2.1,(d6 (di a)))
 else
 Xa (E0,E0,0,262144,16,Xb,b,E0,r.id.c,r.id.op,r.id.k,r.a.g,r.a.r,r.a.p,r.a.c,r.a.v,r.a.o,r.a.h,r.a.f,r.a.l,r.a.n,r.a.u,r.a.w,r.s,r.i,r.e.id.c,r.e.id.op,r.e.id.k,(Zd r.e.q),r.e.d.g,r.e.d.t,r.e.d.h,r.e.d.j,r.e.d.i,r.e.d.f,r.e.d.m,1,w,pa,c)):=by kernel_rfl
def Zwy (d w pa e:LL) (r:Req) (f:Int):g16 0 262144 16 Xb d E0 r.id.c r.id.op r.id.k r.a.g r.a.r r.a.p r.a.c r.a.v r.a.o r.a.h r.a.f r.a.l r.a.n r.a.u r.a.w r.s r.i r.e.id.c r.e.id.op r.e.id.k (Zd r.e.q) r.e.d.g r.e.d.t r.e.d.h r.e.d.j r.e.d.i r.e.d.f r.e.d.m 2 w pa e 7 0 f 0 0 0 0 r.id.c r.id.op r.id.k 0 Xb 0 0 0 0 0 0 0 0 0 0 0 0 0 0 0 0 0 0 0 0 E0 0 0 0 0 0 0 Xb E0 E0 E0 E0 0 0 E0 E0 E0 E0 E0 E0 E0 E0 0 0 E0 E0 E0 E0 E0 E0 E0 E0 Xb 0 E0 E0 E0 E0 E0 E0 E0 E0 =
 ((g46 7 0 f 0 0 0 0 r.id.c r.id.op r.id.k 0 Xb 0 0 0 0 0 0 0 0 0 0 0 0 0 0 0 0 0 0 0 0 E0 0 0 0 0 0 0 Xb E0 E0 E0 E0 0 0 E0 E0 E0 E0 E0 E0 E0 E0 0 0 E0 E0 E0 E0 E0 E0 E0 E0 Xb 0 E0 E0 E0 E0 E0 E0 E0 E0).bind fun c=>
 if (!c)=Xc then
 Xa (E0,E0,0,262144,16,Xb,d,E0,r.id.c,r.id.op,r.id.k,r.a.g,r.a.r,r.a.p,r.a.c,r.a.v,r.a.o,r.a.h,r.a.f,r.a.l,r.a.n,r.a.u,r.a.w,r.s,r.i,r.e.id.c,r.e.id.op,r.e.id.k,(Zd r.e.q),r.e.d.g,r.e.d.t,r.e.d.h,r.e.d.j,r.e.d.i,r.e.d.f,r.e.d.m,2,w,pa,e)
 else
 if (!((P0 .eql r.id.c r.id.c)&&((P0 .eql r.id.op r.id.op)&&((P0 .eql r.id.k r.id.k)&&Xc))))=Xc then
 Xa (E0,E0,0,262144,16,Xb,d,E0,r.id.c,r.id.op,r.id.k,r.a.g,r.a.r,r.a.p,r.a.c,r.a.v,r.a.o,r.a.h,r.a.f,r.a.l,r.a.n,r.a.u,r.a.w,r.s,r.i,r.e.id.c,r.e.id.op,r.e.id.k,(Zd r.e.q),r.e.d.g,r.e.d.t,r.e.d.h,r.e.d.j,r.e.d.i,r.e.d.f,r.e.d.m,2,w,pa,e)
 else
 (g49 0 262144 16 Xb d E0 r.id.c r.id.op r.id.k r.a.g r.a.r r.a.p r.a.c r.a.v r.a.o r.a.h r.a.f r.a.l r.a.n r.a.u r.a.w r.s r.i r.e.id.c r.e.id.op r.e.id.k (Zd r.e.q) r.e.d.g r.e.d.t r.e.d.h r.e.d.j r.e.d.i r.e.d.f r.e.d.m 2 w pa e f).bind fun a=>
 if a.1=Xc then
 (g50 a.2.1 a.2.2.1 a.2.2.2.1 (d4 a).1 (d4 a).2.1 (d6 a).1 (d6 a).2.1 (d8 a).1 (d8 a).2.1 (df a).1 (df a).2.1 (dg a).1 (dg a).2.1 (dh a).1 (dh a).2.1 (P2 a).1 (P2 a).2.1 (d2 (P2 a)).1 (d2 (P2 a)).2.1 (d4 (P2 a)).1 (d4 (P2 a)).2.1 (d6 (P2 a)).1 (d6 (P2 a)).2.1 (d8 (P2 a)).1 (d8 (P2 a)).2.1 (df (P2 a)).1 (df (P2 a)).2.1 (dg (P2 a)).1 (dg (P2 a)).2.1 (dh (P2 a)).1 (dh (P2 a)).2.1 (di a).1 (di a).2.1 (d2 (di a)).1 3 (d4 (di a)).1 (d4 (di a)).2.1 (d6 (di a)) 8).bind fun b=>
 Xa (b.1,E0,b.2.1,b.2.2.1,b.2.2.2.1,(d4 b).1,(d4 b).2.1,(d6 b).1,(d6 b).2.1,(d8 b).1,(d8 b).2.1,(df b).1,(df b).2.1,(dg b).1,(dg b).2.1,(dh b).1,(dh b).2.1,(P2 b).1,(P2 b).2.1,(d2 (P2 b)).1,(d2 (P2 b)).2.1,(d4 (P2 b)).1,(d4 (P2 b)).2.1,(d6 (P2 b)).1,(d6 (P2 b)).2.1,(d8 (P2 b)).1,(d8 (P2 b)).2.1,(df (P2 b)).1,(df (P2 b)).2.1,(dg (P2 b)).1,(dg (P2 b)).2.1,(dh (P2 b)).1,(dh (P2 b)).2.1,(di b).1,(di b).2.1,(d2 (di b)).1,(d2 (di b)).2.1,(d4 (di b)).1,(d4 (di b)).2.1,(d6 (di b)))
 else
 if (P0 .eql (d2 (di a)).2.1 3)=Xc then
 if (P0 .eql (d2 (di a)).2.1 4)=Xc then
 if (P0 .eql (d2 (di a)).2.1 5)=Xc then
 Xa (E0,E0,a.2.1,a.2.2.1,a.2.2.2.1,(d4 a).1,(d4 a).2.1,(d6 a).1,(d6 a).2.1,(d8 a).1,(d8 a).2.1,(df a).1,(df a).2.1,(dg a).1,(dg a).2.1,(dh a).1,(dh a).2.1,(P2 a).1,(P2 a).2.1,(d2 (P2 a)).1,(d2 (P2 a)).2.1,(d4 (P2 a)).1,(d4 (P2 a)).2.1,(d6 (P2 a)).1,(d6 (P2 a)).2.1,(d8 (P2 a)).1,(d8 (P2 a)).2.1,(df (P2 a)).1,(df (P2 a)).2.1,(dg (P2 a)).1,(dg (P2 a)).2.1,(dh (P2 a)).1,(dh (P2 a)).2.1,(di a).1,(di a).2.1,(d2 (di a)).1,(d2 (di a)).2.1,(d4 (di a)).1,(d4 (di a)).2.1,(d6 (di a)))
 else
 Xa (E0,E0,a.2.1,a.2.2.1,a.2.2.2.1,(d4 a).1,(d4 a).2.1,(d6 a).1,(d6 a).2.1,(d8 a).1,(d8 a).2.1,(df a).1,(df a).2.1,(dg a).1,(dg a).2.1,(dh a).1,(dh a).2.1,(P2 a).1,(P2 a).2.1,(d2 (P2 a)).1,(d2 (P2 a)).2.1,(d4 (P2 a)).1,(d4 (P2 a)).2.1,(d6 (P2 a)).1,(d6 (P2 a)).2.1,(d8 (P2 a)).1,(d8 (P2 a)).2.1,(df (P2 a)).1,(df (P2 a)).2.1,(dg (P2 a)).1,(dg (P2 a)).2.1,(dh (P2 a)).1,(dh (P2 a)).2.1,(di a).1,(di a).2.1,(d2 (di a)).1,(d2 (di a)).2.1,(d4 (di a)).1,(d4 (di a)).2.1,(d6 (di a)))
 else
 if (P0 .eql (d2 (di a)).2.1 5)=Xc then
 Xa (E0,E0,a.2.1,a.2.2.1,a.2.2.2.1,(d4 a).1,(d4 a).2.1,(d6 a).1,(d6 a).2.1,(d8 a).1,(d8 a).2.1,(df a).1,(df a).2.1,(dg a).1,(dg a).2.1,(dh a).1,(dh a).2.1,(P2 a).1,(P2 a).2.1,(d2 (P2 a)).1,(d2 (P2 a)).2.1,(d4 (P2 a)).1,(d4 (P2 a)).2.1,(d6 (P2 a)).1,(d6 (P2 a)).2.1,(d8 (P2 a)).1,(d8 (P2 a)).2.1,(df (P2 a)).1,(df (P2 a)).2.1,(dg (P2 a)).1,(dg (P2 a)).2.1,(dh (P2 a)).1,(dh (P2 a)).2.1,(di a).1,(di a).2.1,(d2 (di a)).1,(d2 (di a)).2.1,(d4 (di a)).1,(d4 (di a)).2.1,(d6 (di a)))
 else
 Xa (E0,E0,a.2.1,a.2.2.1,a.2.2.2.1,(d4 a).1,(d4 a).2.1,(d6 a).1,(d6 a).2.1,(d8 a).1,(d8 a).2.1,(df a).1,(df a).2.1,(dg a).1,(dg a).2.1,(dh a).1,(dh a).2.1,(P2 a).1,(P2 a).2.1,(d2 (P2 a)).1,(d2 (P2 a)).2.1,(d4 (P2 a)).1,(d4 (P2 a)).2.1,(d6 (P2 a)).1,(d6 (P2 a)).2.1,(d8 (P2 a)).1,(d8 (P2 a)).2.1,(df (P2 a)).1,(df (P2 a)).2.1,(dg (P2 a)).1,(dg (P2 a)).2.1,(dh (P2 a)).1,(dh (P2 a)).2.1,(di a).1,(di a).2.1,(d2 (di a)).1,(d2 (di a)).2.1,(d4 (di a)).1,(d4 (di a)).2.1,(d6 (di a)))
 else
 if (P0 .eql (d2 (di a)).2.1 4)=Xc then
 if (P0 .eql (d2 (di a)).2.1 5)=Xc then
 Xa (E0,E0,a.2.1,a.2.2.1,a.2.2.2.1,(d4 a).1,(d4 a).2.1,(d6 a).1,(d6 a).2.1,(d8 a).1,(d8 a).2.1,(df a).1,(df a).2.1,(dg a).1,(dg a).2.1,(dh a).1,(dh a).2.1,(P2 a).1,(P2 a).2.1,(d2 (P2 a)).1,(d2 (P2 a)).2.1,(d4 (P2 a)).1,(d4 (P2 a)).2.1,(d6 (P2 a)).1,(d6 (P2 a)).2.1,(d8 (P2 a)).1,(d8 (P2 a)).2.1,(df (P2 a)).1,(df (P2 a)).2.1,(dg (P2 a)).1,(dg (P2 a)).2.1,(dh (P2 a)).1,(dh (P2 a)).2.1,(di a).1,(di a).2.1,(d2 (di a)).1,(d2 (di a)).2.1,(d4 (di a)).1,(d4 (di a)).2.1,(d6 (di a)))
 else
 Xa (E0,E0,a.2.1,a.2.2.1,a.2.2.2.1,(d4 a).1,(d4 a).2.1,(d6 a).1,(d6 a).2.1,(d8 a).1,(d8 a).2.1,(df a).1,(df a).2.1,(dg a).1,(dg a).2.1,(dh a).1,(dh a).2.1,(P2 a).1,(P2 a).2.1,(d2 (P2 a)).1,(d2 (P2 a)).2.1,(d4 (P2 a)).1,(d4 (P2 a)).2.1,(d6 (P2 a)).1,(d6 (P2 a)).2.1,(d8 (P2 a)).1,(d8 (P2 a)).2.1,(df (P2 a)).1,(df (P2 a)).2.1,(dg (P2 a)).1,(dg (P2 a)).2.1,(dh (P2 a)).1,(dh (P2 a)).2.1,(di a).1,(di a).2.1,(d2 (di a)).1,(d2 (di a)).2.1,(d4 (di a)).1,(d4 (di a)).2.1,(d6 (di a)))
 else
 if (P0 .eql (d2 (di a)).2.1 5)=Xc then
 Xa (E0,E0,a.2.1,a.2.2.1,a.2.2.2.1,(d4 a).1,(d4 a).2.1,(d6 a).1,(d6 a).2.1,(d8 a).1,(d8 a).2.1,(df a).1,(df a).2.1,(dg a).1,(dg a).2.1,(dh a).1,(dh a).2.1,(P2 a).1,(P2 a).2.1,(d2 (P2 a)).1,(d2 (P2 a)).2.1,(d4 (P2 a)).1,(d4 (P2 a)).2.1,(d6 (P2 a)).1,(d6 (P2 a)).2.1,(d8 (P2 a)).1,(d8 (P2 a)).2.1,(df (P2 a)).1,(df (P2 a)).2.1,(dg (P2 a)).1,(dg (P2 a)).2.1,(dh (P2 a)).1,(dh (P2 a)).2.1,(di a).1,(di a).2.1,(d2 (di a)).1,(d2 (di a)).2.1,(d4 (di a)).1,(d4 (di a)).2.1,(d6 (di a)))
 else
 Xa (E0,E0,a.2.1,a.2.2.1,a.2.2.2.1,(d4 a).1,(d4 a).2.1,(d6 a).1,(d6 a).2.1,(d8 a).1,(d8 a).2.1,(df a).1,(df a).2.1,(dg a).1,(dg a).2.1,(dh a).1,(dh a).2.1,(P2 a).1,(P2 a).2.1,(d2 (P2 a)).1,(d2 (P2 a)).2.1,(d4 (P2 a)).1,(d4 (P2 a)).2.1,(d6 (P2 a)).1,(d6 (P2 a)).2.1,(d8 (P2 a)).1,(d8 (P2 a)).2.1,(df (P2 a)).1,(df (P2 a)).2.1,(dg (P2 a)).1,(dg (P2 a)).2.1,(dh (P2 a)).1,(dh (P2 a)).2.1,(di a).1,(di a).2.1,(d2 (di a)).1,(d2 (di a)).2.1,(d4 (di a)).1,(d4 (di a)).2.1,(d6 (di a)))):=by kernel_rfl
def ZvW (c w pa d:LL) (r:Req) (f:Int):g16 0 262144 16 Xb c E0 r.id.c r.id.op r.id.k r.a.g r.a.r r.a.p r.a.c r.a.v r.a.o r.a.h r.a.f r.a.l r.a.n r.a.u r.a.w r.s r.i r.e.id.c r.e.id.op r.e.id.k (Zd r.e.q) r.e.d.g r.e.d.t r.e.d.h r.e.d.j r.e.d.i r.e.d.f r.e.d.m 3 w pa d 9 0 f 0 0 0 0 r.id.c r.id.op r.id.k 0 Xb 0 0 0 0 0 0 0 0 0 0 0 0 0 0 0 0 0 0 0 0 E0 0 0 0 0 0 0 Xb E0 E0 E0 E0 0 0 E0 E0 E0 E0 E0 E0 E0 E0 0 0 E0 E0 E0 E0 E0 E0 E0 E0 Xb 0 E0 E0 E0 E0 E0 E0 E0 E0 =
 ((g46 9 0 f 0 0 0 0 r.id.c r.id.op r.id.k 0 Xb 0 0 0 0 0 0 0 0 0 0 0 0 0 0 0 0 0 0 0 0 E0 0 0 0 0 0 0 Xb E0 E0 E0 E0 0 0 E0 E0 E0 E0 E0 E0 E0 E0 0 0 E0 E0 E0 E0 E0 E0 E0 E0 Xb 0 E0 E0 E0 E0 E0 E0 E0 E0).bind fun b=>
 if (!b)=Xc then
 Xa (E0,E0,0,262144,16,Xb,c,E0,r.id.c,r.id.op,r.id.k,r.a.g,r.a.r,r.a.p,r.a.c,r.a.v,r.a.o,r.a.h,r.a.f,r.a.l,r.a.n,r.a.u,r.a.w,r.s,r.i,r.e.id.c,r.e.id.op,r.e.id.k,(Zd r.e.q),r.e.d.g,r.e.d.t,r.e.d.h,r.e.d.j,r.e.d.i,r.e.d.f,r.e.d.m,3,w,pa,d)
 else
 if (!((P0 .eql r.id.c r.id.c)&&((P0 .eql r.id.op r.id.op)&&((P0 .eql r.id.k r.id.k)&&Xc))))=Xc then
 Xa (E0,E0,0,262144,16,Xb,c,E0,r.id.c,r.id.op,r.id.k,r.a.g,r.a.r,r.a.p,r.a.c,r.a.v,r.a.o,r.a.h,r.a.f,r.a.l,r.a.n,r.a.u,r.a.w,r.s,r.i,r.e.id.c,r.e.id.op,r.e.id.k,(Zd r.e.q),r.e.d.g,r.e.d.t,r.e.d.h,r.e.d.j,r.e.d.i,r.e.d.f,r.e.d.m,3,w,pa,d)
 else
 (g49 0 262144 16 Xb c E0 r.id.c r.id.op r.id.k r.a.g r.a.r r.a.p r.a.c r.a.v r.a.o r.a.h r.a.f r.a.l r.a.n r.a.u r.a.w r.s r.i r.e.id.c r.e.id.op r.e.id.k (Zd r.e.q) r.e.d.g r.e.d.t r.e.d.h r.e.d.j r.e.d.i r.e.d.f r.e.d.m 3 w pa d f).bind fun a=>
 if a.1=Xc then
 Zkw ZG a.2.1 a.2.2.1 a.2.2.2.1 (d4 a).1 (d4 a).2.1 (d6 a).1 (d6 a).2.1 (d8 a).1 (d8 a).2.1 (df a).1 (df a).2.1 (dg a).1 (dg a).2.1 (dh a).1 (dh a).2.1 (P2 a).1 (P2 a).2.1 (d2 (P2 a)).1 (d2 (P2 a)).2.1 (d4 (P2 a)).1 (d4 (P2 a)).2.1 (d6 (P2 a)).1 (d6 (P2 a)).2.1 (d8 (P2 a)).1 (d8 (P2 a)).2.1 (df (P2 a)).1 (df (P2 a)).2.1 (dg (P2 a)).1 (dg (P2 a)).2.1 (dh (P2 a)).1 (dh (P2 a)).2.1 (di a).1 (di a).2.1 (d2 (di a)).1 4 (d4 (di a)).1 (d4 (di a)).2.1 (d6 (di a)) (d6 (di a)) (Xg (d6 (di a)):Int) 0
 else
 if (P0 .eql (d2 (di a)).2.1 4)=Xc then
 if (P0 .eql (d2 (di a)).2.1 5)=Xc then
 Xa (E0,E0,a.2.1,a.2.2.1,a.2.2.2.1,(d4 a).1,(d4 a).2.1,(d6 a).1,(d6 a).2.1,(d8 a).1,(d8 a).2.1,(df a).1,(df a).2.1,(dg a).1,(dg a).2.1,(dh a).1,(dh a).2.1,(P2 a).1,(P2 a).2.1,(d2 (P2 a)).1,(d2 (P2 a)).2.1,(d4 (P2 a)).1,(d4 (P2 a)).2.1,(d6 (P2 a)).1,(d6 (P2 a)).2.1,(d8 (P2 a)).1,(d8 (P2 a)).2.1,(df (P2 a)).1,(df (P2 a)).2.1,(dg (P2 a)).1,(dg (P2 a)).2.1,(dh (P2 a)).1,(dh (P2 a)).2.1,(di a).1,(di a).2.1,(d2 (di a)).1,(d2 (di a)).2.1,(d4 (di a)).1,(d4 (di a)).2.1,(d6 (di a)))
 else
 Xa (E0,E0,a.2.1,a.2.2.1,a.2.2.2.1,(d4 a).1,(d4 a).2.1,(d6 a).1,(d6 a).2.1,(d8 a).1,(d8 a).2.1,(df a).1,(df a).2.1,(dg a).1,(dg a).2.1,(dh a).1,(dh a).2.1,(P2 a).1,(P2 a).2.1,(d2 (P2 a)).1,(d2 (P2 a)).2.1,(d4 (P2 a)).1,(d4 (P2 a)).2.1,(d6 (P2 a)).1,(d6 (P2 a)).2.1,(d8 (P2 a)).1,(d8 (P2 a)).2.1,(df (P2 a)).1,(df (P2 a)).2.1,(dg (P2 a)).1,(dg (P2 a)).2.1,(dh (P2 a)).1,(dh (P2 a)).2.1,(di a).1,(di a).2.1,(d2 (di a)).1,(d2 (di a)).2.1,(d4 (di a)).1,(d4 (di a)).2.1,(d6 (di a)))
 else
 if (P0 .eql (d2 (di a)).2.1 5)=Xc then
 Xa (E0,E0,a.2.1,a.2.2.1,a.2.2.2.1,(d4 a).1,(d4 a).2.1,(d6 a).1,(d6 a).2.1,(d8 a).1,(d8 a).2.1,(df a).1,(df a).2.1,(dg a).1,(dg a).2.1,(dh a).1,(dh a).2.1,(P2 a).1,(P2 a).2.1,(d2 (P2 a)).1,(d2 (P2 a)).2.1,(d4 (P2 a)).1,(d4 (P2 a)).2.1,(d6 (P2 a)).1,(d6 (P2 a)).2.1,(d8 (P2 a)).1,(d8 (P2 a)).2.1,(df (P2 a)).1,(df (P2 a)).2.1,(dg (P2 a)).1,(dg (P2 a)).2.1,(dh (P2 a)).1,(dh (P2 a)).2.1,(di a).1,(di a).2.1,(d2 (di a)).1,(d2 (di a)).2.1,(d4 (di a)).1,(d4 (di a)).2.1,(d6 (di a)))
 else
 Xa (E0,E0,a.2.1,a.2.2.1,a.2.2.2.1,(d4 a).1,(d4 a).2.1,(d6 a).1,(d6 a).2.1,(d8 a).1,(d8 a).2.1,(df a).1,(df a).2.1,(dg a).1,(dg a).2.1,(dh a).1,(dh a).2.1,(P2 a).1,(P2 a).2.1,(d2 (P2 a)).1,(d2 (P2 a)).2.1,(d4 (P2 a)).1,(d4 (P2 a)).2.1,(d6 (P2 a)).1,(d6 (P2 a)).2.1,(d8 (P2 a)).1,(d8 (P2 a)).2.1,(df (P2 a)).1,(df (P2 a)).2.1,(dg (P2 a)).1,(dg (P2 a)).2.1,(dh (P2 a)).1,(dh (P2 a)).2.1,(di a).1,(di a).2.1,(d2 (di a)).1,(d2 (di a)).2.1,(d4 (di a)).1,(d4 (di a)).2.1,(d6 (di a)))):=by kernel_rfl
def ZvA (d w pa e:LL) (r:Req) (f:Int):g16 0 262144 16 Xb d E0 r.id.c r.id.op r.id.k r.a.g r.a.r r.a.p r.a.c r.a.v r.a.o r.a.h r.a.f r.a.l r.a.n r.a.u r.a.w r.s r.i r.e.id.c r.e.id.op r.e.id.k (Zd r.e.q) r.e.d.g r.e.d.t r.e.d.h r.e.d.j r.e.d.i r.e.d.f r.e.d.m 4 w pa e 11 0 f 0 0 0 0 r.id.c r.id.op r.id.k 0 Xb 0 0 0 0 0 0 0 0 0 0 0 0 0 0 0 0 0 0 0 0 E0 0 0 0 0 0 0 Xb E0 E0 E0 E0 0 0 E0 E0 E0 E0 E0 E0 E0 E0 0 0 E0 E0 E0 E0 E0 E0 E0 E0 Xb 0 E0 E0 E0 E0 E0 E0 E0 E0 =
 ((g46 11 0 f 0 0 0 0 r.id.c r.id.op r.id.k 0 Xb 0 0 0 0 0 0 0 0 0 0 0 0 0 0 0 0 0 0 0 0 E0 0 0 0 0 0 0 Xb E0 E0 E0 E0 0 0 E0 E0 E0 E0 E0 E0 E0 E0 0 0 E0 E0 E0 E0 E0 E0 E0 E0 Xb 0 E0 E0 E0 E0 E0 E0 E0 E0).bind fun c=>
 if (!c)=Xc then
 Xa (E0,E0,0,262144,16,Xb,d,E0,r.id.c,r.id.op,r.id.k,r.a.g,r.a.r,r.a.p,r.a.c,r.a.v,r.a.o,r.a.h,r.a.f,r.a.l,r.a.n,r.a.u,r.a.w,r.s,r.i,r.e.id.c,r.e.id.op,r.e.id.k,(Zd r.e.q),r.e.d.g,r.e.d.t,r.e.d.h,r.e.d.j,r.e.d.i,r.e.d.f,r.e.d.m,4,w,pa,e)
 else
 if (!((P0 .eql r.id.c r.id.c)&&((P0 .eql r.id.op r.id.op)&&((P0 .eql r.id.k r.id.k)&&Xc))))=Xc then
 Xa (E0,E0,0,262144,16,Xb,d,E0,r.id.c,r.id.op,r.id.k,r.a.g,r.a.r,r.a.p,r.a.c,r.a.v,r.a.o,r.a.h,r.a.f,r.a.l,r.a.n,r.a.u,r.a.w,r.s,r.i,r.e.id.c,r.e.id.op,r.e.id.k,(Zd r.e.q),r.e.d.g,r.e.d.t,r.e.d.h,r.e.d.j,r.e.d.i,r.e.d.f,r.e.d.m,4,w,pa,e)
 else
 (g49 0 262144 16 Xb d E0 r.id.c r.id.op r.id.k r.a.g r.a.r r.a.p r.a.c r.a.v r.a.o r.a.h r.a.f r.a.l r.a.n r.a.u r.a.w r.s r.i r.e.id.c r.e.id.op r.e.id.k (Zd r.e.q) r.e.d.g r.e.d.t r.e.d.h r.e.d.j r.e.d.i r.e.d.f r.e.d.m 4 w pa e f).bind fun a=>
 if a.1=Xc then
 (g48 a.2.1 a.2.2.1 a.2.2.2.1 (d4 a).1 (d4 a).2.1 (d6 a).1 (d6 a).2.1 (d8 a).1 (d8 a).2.1 (df a).1 (df a).2.1 (dg a).1 (dg a).2.1 (dh a).1 (dh a).2.1 (P2 a).1 (P2 a).2.1 (d2 (P2 a)).1 (d2 (P2 a)).2.1 (d4 (P2 a)).1 (d4 (P2 a)).2.1 (d6 (P2 a)).1 (d6 (P2 a)).2.1 (d8 (P2 a)).1 (d8 (P2 a)).2.1 (df (P2 a)).1 (df (P2 a)).2.1 (dg (P2 a)).1 (dg (P2 a)).2.1 (dh (P2 a)).1 (dh (P2 a)).2.1 (di a).1 (di a).2.1 (d2 (di a)).1 (d2 (di a)).2.1 (d4 (di a)).1 (d4 (di a)).2.1 (d6 (di a)) 0 Xc E0).bind fun b=>
 Xa (b.1,E0,b.2.1,b.2.2.1,b.2.2.2.1,(d4 b).1,(d4 b).2.1,(d6 b).1,(d6 b).2.1,(d8 b).1,(d8 b).2.1,(df b).1,(df b).2.1,(dg b).1,(dg b).2.1,(dh b).1,(dh b).2.1,(P2 b).1,(P2 b).2.1,(d2 (P2 b)).1,(d2 (P2 b)).2.1,(d4 (P2 b)).1,(d4 (P2 b)).2.1,(d6 (P2 b)).1,(d6 (P2 b)).2.1,(d8 (P2 b)).1,(d8 (P2 b)).2.1,(df (P2 b)).1,(df (P2 b)).2.1,(dg (P2 b)).1,(dg (P2 b)).2.1,(dh (P2 b)).1,(dh (P2 b)).2.1,(di b).1,(di b).2.1,(d2 (di b)).1,(d2 (di b)).2.1,(d4 (di b)).1,(d4 (di b)).2.1,(d6 (di b)))
 else
 if (P0 .eql (d2 (di a)).2.1 5)=Xc then
 Xa (E0,E0,a.2.1,a.2.2.1,a.2.2.2.1,(d4 a).1,(d4 a).2.1,(d6 a).1,(d6 a).2.1,(d8 a).1,(d8 a).2.1,(df a).1,(df a).2.1,(dg a).1,(dg a).2.1,(dh a).1,(dh a).2.1,(P2 a).1,(P2 a).2.1,(d2 (P2 a)).1,(d2 (P2 a)).2.1,(d4 (P2 a)).1,(d4 (P2 a)).2.1,(d6 (P2 a)).1,(d6 (P2 a)).2.1,(d8 (P2 a)).1,(d8 (P2 a)).2.1,(df (P2 a)).1,(df (P2 a)).2.1,(dg (P2 a)).1,(dg (P2 a)).2.1,(dh (P2 a)).1,(dh (P2 a)).2.1,(di a).1,(di a).2.1,(d2 (di a)).1,(d2 (di a)).2.1,(d4 (di a)).1,(d4 (di a)).2.1,(d6 (di a)))
 else
 Xa (E0,E0,a.2.1,a.2.2.1,a.2.2.2.1,(d4 a).1,(d4 a).2.1,(d6 a).1,(d6 a).2.1,(d8 a).1,(d8 a).2.1,(df a).1,(df a).2.1,(dg a).1,(dg a).2.1,(dh a).1,(dh a).2.1,(P2 a).1,(P2 a).2.1,(d2 (P2 a)).1,(d2 (P2 a)).2.1,(d4 (P2 a)).1,(d4 (P2 a)).2.1,(d6 (P2 a)).1,(d6 (P2 a)).2.1,(d8 (P2 a)).1,(d8 (P2 a)).2.1,(df (P2 a)).1,(df (P2 a)).2.1,(dg (P2 a)).1,(dg (P2 a)).2.1,(dh (P2 a)).1,(dh (P2 a)).2.1,(di a).1,(di a).2.1,(d2 (di a)).1,(d2 (di a)).2.1,(d4 (di a)).1,(d4 (di a)).2.1,(d6 (di a)))):=by kernel_rfl
def ZvC (b w pa d:LL) (r:Req) (f:Int):g16 0 262144 16 Xb b E0 r.id.c r.id.op r.id.k r.a.g r.a.r r.a.p r.a.c r.a.v r.a.o r.a.h r.a.f r.a.l r.a.n r.a.u r.a.w r.s r.i r.e.id.c r.e.id.op r.e.id.k (Zd r.e.q) r.e.d.g r.e.d.t r.e.d.h r.e.d.j r.e.d.i r.e.d.f r.e.d.m 5 w pa d 3 0 f 0 0 0 0 r.id.c r.id.op r.id.k 0 Xb 0 0 0 0 0 0 0 0 0 0 0 0 0 0 0 0 0 0 0 0 E0 0 0 0 0 0 0 Xb E0 E0 E0 E0 0 0 E0 E0 E0 E0 E0 E0 E0 E0 0 0 E0 E0 E0 E0 E0 E0 E0 E0 Xb 0 E0 E0 E0 E0 E0 E0 E0 E0 =
 ((g46 3 0 f 0 0 0 0 r.id.c r.id.op r.id.k 0 Xb 0 0 0 0 0 0 0 0 0 0 0 0 0 0 0 0 0 0 0 0 E0 0 0 0 0 0 0 Xb E0 E0 E0 E0 0 0 E0 E0 E0 E0 E0 E0 E0 E0 0 0 E0 E0 E0 E0 E0 E0 E0 E0 Xb 0 E0 E0 E0 E0 E0 E0 E0 E0).bind fun c=>
 if (!c)=Xc then
 Xa (E0,E0,0,262144,16,Xb,b,E0,r.id.c,r.id.op,r.id.k,r.a.g,r.a.r,r.a.p,r.a.c,r.a.v,r.a.o,r.a.h,r.a.f,r.a.l,r.a.n,r.a.u,r.a.w,r.s,r.i,r.e.id.c,r.e.id.op,r.e.id.k,(Zd r.e.q),r.e.d.g,r.e.d.t,r.e.d.h,r.e.d.j,r.e.d.i,r.e.d.f,r.e.d.m,5,w,pa,d)
 else
 if (!((P0 .eql r.id.c r.id.c)&&((P0 .eql r.id.op r.id.op)&&((P0 .eql r.id.k r.id.k)&&Xc))))=Xc then
 Xa (E0,E0,0,262144,16,Xb,b,E0,r.id.c,r.id.op,r.id.k,r.a.g,r.a.r,r.a.p,r.a.c,r.a.v,r.a.o,r.a.h,r.a.f,r.a.l,r.a.n,r.a.u,r.a.w,r.s,r.i,r.e.id.c,r.e.id.op,r.e.id.k,(Zd r.e.q),r.e.d.g,r.e.d.t,r.e.d.h,r.e.d.j,r.e.d.i,r.e.d.f,r.e.d.m,5,w,pa,d)
 else
 if (P0 .eql f r.id.c)=Xc then
 (g43 0 262144 16 Xb b E0 0 0 0 0 0 0 0 0 0 0 0 0 0 0 0 0 0 0 0 0 E0 0 0 0 0 0 0 Xb 0 w E0 E0).bind fun a=>
 Xa (a.1,E0,a.2.1,a.2.2.1,a.2.2.2.1,(d4 a).1,(d4 a).2.1,(d6 a).1,(d6 a).2.1,(d8 a).1,(d8 a).2.1,(df a).1,(df a).2.1,(dg a).1,(dg a).2.1,(dh a).1,(dh a).2.1,(P2 a).1,(P2 a).2.1,(d2 (P2 a)).1,(d2 (P2 a)).2.1,(d4 (P2 a)).1,(d4 (P2 a)).2.1,(d6 (P2 a)).1,(d6 (P2 a)).2.1,(d8 (P2 a)).1,(d8 (P2 a)).2.1,(df (P2 a)).1,(df (P2 a)).2.1,(dg (P2 a)).1,(dg (P2 a)).2.1,(dh (P2 a)).1,(dh (P2 a)).2.1,(di a).1,(di a).2.1,(d2 (di a)).1,(d2 (di a)).2.1,(d4 (di a)).1,(d4 (di a)).2.1,(d6 (di a)))
 else
 Xa (E0,E0,0,262144,16,Xb,b,E0,r.id.c,r.id.op,r.id.k,r.a.g,r.a.r,r.a.p,r.a.c,r.a.v,r.a.o,r.a.h,r.a.f,r.a.l,r.a.n,r.a.u,r.a.w,r.s,r.i,r.e.id.c,r.e.id.op,r.e.id.k,(Zd r.e.q),r.e.d.g,r.e.d.t,r.e.d.h,r.e.d.j,r.e.d.i,r.e.d.f,r.e.d.m,5,w,pa,d)):=by kernel_rfl
def ZtN (f:Int) (i:Id):g46 7 0 f 0 0 0 0 i.c i.op i.k 0 Xb 0 0 0 0 0 0 0 0 0 0 0 0 0 0 0 0 0 0 0 0 E0 0 0 0 0 0 0 Xb E0 E0 E0 E0 0 0 E0 E0 E0 E0 E0 E0 E0 E0 0 0 E0 E0 E0 E0 E0 E0 E0 E0 Xb 0 E0 E0 E0 E0 E0 E0 E0 E0=((g90 f).bind fun r=>if (!r)=Xc then Xa Xb else (((g80 i.c i.op i.k).bind fun r=>Xa r).bind fun r=>if (!r)=Xc then Xa Xb else Xa Xc)):=by kernel_rfl
def ZvS (f:Int) (i:Id):g46 9 0 f 0 0 0 0 i.c i.op i.k 0 Xb 0 0 0 0 0 0 0 0 0 0 0 0 0 0 0 0 0 0 0 0 E0 0 0 0 0 0 0 Xb E0 E0 E0 E0 0 0 E0 E0 E0 E0 E0 E0 E0 E0 0 0 E0 E0 E0 E0 E0 E0 E0 E0 Xb 0 E0 E0 E0 E0 E0 E0 E0 E0=((g90 f).bind fun r=>if (!r)=Xc then Xa Xb else (((g80 i.c i.op i.k).bind fun r=>Xa r).bind fun r=>if (!r)=Xc then Xa Xb else Xa Xc)):=by kernel_rfl
def Zsn (f:Int) (i:Id):g46 11 0 f 0 0 0 0 i.c i.op i.k 0 Xb 0 0 0 0 0 0 0 0 0 0 0 0 0 0 0 0 0 0 0 0 E0 0 0 0 0 0 0 Xb E0 E0 E0 E0 0 0 E0 E0 E0 E0 E0 E0 E0 E0 0 0 E0 E0 E0 E0 E0 E0 E0 E0 Xb 0 E0 E0 E0 E0 E0 E0 E0 E0=((g90 f).bind fun r=>if (!r)=Xc then Xa Xb else (((g80 i.c i.op i.k).bind fun r=>Xa r).bind fun r=>if (!r)=Xc then Xa Xb else Xa Xc)):=by kernel_rfl
def Zue (f:Int) (i:Id):g46 3 0 f 0 0 0 0 i.c i.op i.k 0 Xb 0 0 0 0 0 0 0 0 0 0 0 0 0 0 0 0 0 0 0 0 E0 0 0 0 0 0 0 Xb E0 E0 E0 E0 0 0 E0 E0 E0 E0 E0 E0 E0 E0 0 0 E0 E0 E0 E0 E0 E0 E0 E0 Xb 0 E0 E0 E0 E0 E0 E0 E0 E0=((g90 f).bind fun r=>if (!r)=Xc then Xa Xb else (((g80 i.c i.op i.k).bind fun r=>Xa r).bind fun r=>if (!r)=Xc then Xa Xb else Xa Xc)):=by kernel_rfl
def Zvr (f:Int) (i:Id):g46 5 0 f 0 0 0 0 i.c i.op i.k 0 Xb 0 0 0 0 0 0 0 0 0 0 0 0 0 0 0 0 0 0 0 0 E0 0 0 0 0 0 0 Xb E0 E0 E0 E0 0 0 E0 E0 E0 E0 E0 E0 E0 E0 0 0 E0 E0 E0 E0 E0 E0 E0 E0 Xb 0 E0 E0 E0 E0 E0 E0 E0 E0=((g90 f).bind fun r=>if (!r)=Xc then Xa Xb else (((g80 i.c i.op i.k).bind fun r=>Xa r).bind fun r=>if (!r)=Xc then Xa Xb else (((ZAK 0).bind fun r=>Xa r).bind fun r=>if (!r)=Xc then Xa Xb else Xa Xc))):=by kernel_rfl
def left (f:List Zk) (ds:List Id):List Zk:=f.filter fun e=>!ds.contains e.b.id
def Zje {f:List Zk} (e:f.Pairwise fun a b=>lte a b=Xc):∀ a b (c:a < f.length) (d:b < f.length),f[a].b.id=f[b].b.id→a=b:=by
 intro a b c d g;rcases Nat.lt_trichotomy a b with h | h | h
 ·have:=UB.1 e a b c d h;rw [ZcB,g] at this;omega
 ·exact h
 ·have:=UB.1 e b a d c h;rw [ZcB,g] at this;omega
def YS {l:List Zk} (g:l.Pairwise fun a b=>lte a b=Xc) (k:Nat) (c:k < l.length):l.take k++l.drop (k+1)=l.filter fun e=>!decide (e.b.id=l[k].b.id):=by
 have i:l=l.take k++l[k]::l.drop (k+1):=by rw [← Tj c,UH]
 have m:(l.take k).filter (fun e=>!decide (e.b.id=l[k].b.id))=l.take k:=T3.2 fun e d=>by
  obtain ⟨j,f,rfl⟩:=Ud.1 d;rw [Xu] at f;rw [Tk];have:=Zje g j k (by omega) c;simp only [XJ,decide_eq_false_iff_not];intro h;have:=this h;omega
 have n:(l.drop (k+1)).filter (fun e=>!decide (e.b.id=l[k].b.id))=l.drop (k+1):=T3.2 fun e d=>by
  obtain ⟨j,f,rfl⟩:=Ud.1 d;rw [List.length_drop] at f;rw [List.getElem_drop];have:=Zje g (k+1+j) k (by omega) c;simp only [XJ,decide_eq_false_iff_not];intro h;have:=this h;omega
 have o:l.filter (fun e=>!decide (e.b.id=l[k].b.id))=(l.take k++l[k]::l.drop (k+1)).filter (fun e=>!decide (e.b.id=l[k].b.id)):=by rw [← i]
 rw [o,List.filter_append,m,List.filter_cons,P3 (by simp),n]
def Zin {f:List Zk} (c:f.Pairwise fun a b=>lte a b=Xc) (ds:List Id):(left f ds).Pairwise fun a b=>lte a b=Xc:=c.sublist Tz
def Zo3 {f:List Zk} (a:Kj f) (ds:List Id):Kj (left f ds):=⟨XN (U9 _ _) a.len,fun e b=>a.q e (Uu.1 b).1⟩
def ZnL {f:List Zk} (j:f.Pairwise fun a b=>lte a b=Xc) (ds:List Id) (d:Id) (l:∃ e∈f,e.b.id=d) (m:d∉ds):∃ k,∃ g:k < (left f ds).length,d=(left f ds)[k].b.id∧(left f ds).take k++(left f ds).drop (k+1)=left f (ds++[d]):=by
 obtain ⟨e,n,rfl⟩:=l;have o:e∈left f ds:=Uu.2 ⟨n,by simp [m]⟩;obtain ⟨k,g,c⟩:=Ud.1 o;refine ⟨k,g,by rw [c],?_⟩;rw [YS (Zin j ds) k g,c];unfold left;rw [List.filter_filter];congr 1;funext x;rw [Bool.eq_iff_iff];simp only [Xk,XJ,decide_eq_false_iff_not,List.contains_eq_mem,Xq,XF];constructor
 ·rintro ⟨p,q⟩ (h | h)
  ·exact q h
  ·exact p h
 ·intro h;exact ⟨fun i=>h (.inr i),fun i=>h (.inl i)⟩
def Zzr {f:List Zk} (k:f.Pairwise fun a b=>lte a b=Xc) (i:Id) (e:Zk) (j:e∈f):(Yh (bl f i)).contains e.b.id=e.b.q.contains i:=by
 rw [Bool.eq_iff_iff,List.contains_iff_mem];constructor
 ·intro h;obtain ⟨x,l,c⟩:=Xs.1 h;obtain ⟨d,g⟩:=Uu.1 l;obtain ⟨a,m,rfl⟩:=Ud.1 d;obtain ⟨b,n,rfl⟩:=Ud.1 j;have:=Zje k a b m n c;subst this;exact g
 ·intro h;exact Xs.2 ⟨e,Uu.2 ⟨j,h⟩,rfl⟩
def ZnZ {f:List Zk} (c:f.Pairwise fun a b=>lte a b=Xc) (i:Id):left f (Yh (bl f i))=f.filter fun e=>!e.b.q.contains i:=List.filter_congr fun e d=>by rw [Zzr c i e d]
def Zo8 {f:List Zk} (c:f.Pairwise fun a b=>lte a b=Xc) (i:Id):(Yh (bl f i)).Nodup:=by
 refine List.Pairwise.map _ (fun a b h=>?_) (c.sublist Tz);rw [ZcB] at h;intro d;rw [d] at h;omega
def ZoN (f:List Zk):left f []=f:=T3.2 fun e _=>rfl
def Zyb (f:List Zk) (A:Kj f) (v:f.Pairwise fun a b=>lte a b=Xc) (O:f.length < 400) (r:Req) (p:Int) (w:LL) (P:List Int) (C:P.length < 900) (ds:List Id) (D:∀ d∈ds,∃ e∈f,e.b.id=d) (E:ds.Nodup) (G:ds.length < 900) :
  Zkw ZG 0 262144 16 Xb (f.map Zf) E0 r.id.c r.id.op r.id.k r.a.g r.a.r r.a.p r.a.c r.a.v r.a.o r.a.h r.a.f r.a.l r.a.n r.a.u r.a.w r.s r.i r.e.id.c r.e.id.op r.e.id.k (Zd r.e.q) r.e.d.g r.e.d.t r.e.d.h r.e.d.j r.e.d.i r.e.d.f r.e.d.m p w (Ze P) (Zd ds) (Zd ds) (Xg (Zd ds):Int) 0=Xa (P.map (fun z=>mM 10 z 0 r.id 0 Xb E0),[[I r.id.c,I r.id.op,I r.id.k,B Xc]],oT ((left f ds).map Zf) E0 r p (Ze P) (Ze P) (Zd ds)):=by
 have n:Ret (fun x=>x=((P.map (fun z=>mM 10 z 0 r.id 0 Xb E0),[[I r.id.c,I r.id.op,I r.id.k,B Xc]],oT ((left f ds).map Zf) E0 r p (Ze P) (Ze P) (Zd ds)):Qt12)) (Zkw ZG 0 262144 16 Xb (f.map Zf) E0 r.id.c r.id.op r.id.k r.a.g r.a.r r.a.p r.a.c r.a.v r.a.o r.a.h r.a.f r.a.l r.a.n r.a.u r.a.w r.s r.i r.e.id.c r.e.id.op r.e.id.k (Zd r.e.q) r.e.d.g r.e.d.t r.e.d.h r.e.d.j r.e.d.i r.e.d.f r.e.d.m p w (Ze P) (Zd ds) (Zd ds) (Xg (Zd ds):Int) 0):=by
  rw [Ja];refine Zo (F:=fun k (s:LL) i=>Zkw k 0 262144 16 Xb s E0 r.id.c r.id.op r.id.k r.a.g r.a.r r.a.p r.a.c r.a.v r.a.o r.a.h r.a.f r.a.l r.a.n r.a.u r.a.w r.s r.i r.e.id.c r.e.id.op r.e.id.k (Zd r.e.q) r.e.d.g r.e.d.t r.e.d.h r.e.d.j r.e.d.i r.e.d.f r.e.d.m p w (Ze P) (Zd ds) (Zd ds) (ds.length:Int) i) ds.length (fun j s=>s=(left f (ds.take j)).map Zf) (by omega) (fun k j s H J g=>?_) _ (by rw [List.take_zero,ZoN]);subst J;refine Zi (Zo5 ..) (Za (fun h=>?_) fun h=>?_)
  ·simp only [CQ] at h;have c:j < ds.length:=by omega
   have o:ds[j]∉ds.take j:=fun L=>by
    obtain ⟨a,M,y⟩:=Ud.1 L;rw [Xu] at M;rw [Tk] at y;exact UB.1 E a j (by omega) c (by omega) y
   obtain ⟨q,N,t,u⟩:=ZnL v (ds.take j) ds[j] (D _ (XC c)) o;have l:(left f (ds.take j)).length < 900:=by have:=U9 (fun e=>!(ds.take j).contains e.b.id) f;unfold left;omega
   have m:=s47 (left f (ds.take j)) (Zo3 A _) l (Zin v _) q N ds[j] t;rw [u] at m;refine Zi (ZiL c _) (Zb m ?_);rw [Jd H (by omega)];exact g c _ (by rw [TP c])
  ·simp only [CQ] at h;rw [Uc (by omega)];refine Zb (s50 ((left f ds).map Zf) E0 r p w (Zd ds) P C 10) (Zg (Uk _) (Zg (Uk _) (Zg (Uk _) (Zg (Uk _) (Zg (Uk _) (Zg (Uk _) (Zc rfl)))))))
 obtain ⟨x,e,rfl⟩:=n;exact e
def ZB7 (z:Int) (W:List Int):g97 (Ze (z::W)) ((0:Nat):Int) (P1 .add .i64 ((0:Nat):Int) 1)=Xa (Ze W):=by
 rw [Zty];unfold ZqB;rw [Zu (by decide),Zu (by decide),Zu (show (P1 .add .i64 ((0:Nat):Int) 1:Int)≤_ by rw [Zcq,show (P1 .add .i64 ((0:Nat):Int) 1:Int)=1 from rfl];simp;omega)];rfl
def Zm2 {z:Int} {W:List Int} : Zda (z::W) z=0:=Zdo _ (z::W) (i:=0) (by simp) (by simp) fun j a h=>absurd h (UA j)
def ZtO {s:Int} (d:0≤s) (e:s < 4000):Xl .u64 s=s:=by
 simp only [Xl];have b:IntKind.u64.bits=64:=rfl;have c:IntKind.u64.signed=Xb:=rfl;have a:(2:Int)^64=18446744073709551616:=by decide
 simp only [b,c,Bool.false_and,a];rw [P3 (by simp)];omega
def ZtY {s:Int} (c:0≤s) (d:s < 4000):Xl .i64 s=s:=by
 have a:P1 .add .i64 s 0=s:=by rw [JP (by omega) (by omega)];omega
 have b:P1 .add .i64 s 0=Xl .i64 (s+0):=rfl;rw [b,Int.add_zero] at a;exact a
def Zzj {i j:Nat} (h:i+j < 2000):Xl .i64 (P1 .shr .u64 (Xl .u64 (P1 .add .i64 (i:Int) (j:Int))) 1)=(((i+j) / 2:Nat):Int):=by
 rw [JP (by omega) (by omega),ZtO (by omega) (by omega)]
 have e:P1 .shr .u64 ((i:Int)+(j:Int)) 1=(((i+j) / 2:Nat):Int):=by
  show ((i:Int)+(j:Int)).fdiv (2^(min (1:Int).toNat 64))=_;have a:(2:Int)^(min (1:Int).toNat 64)=2:=rfl;rw [a,Int.fdiv_eq_ediv_of_nonneg _ (by omega)];omega
 rw [e,ZtY (by omega) (by omega)]
def ZBt (a b:Int):ZxW a b=Xa (decide (a < b)):=by
 have e:∀ x:Int,ZrP x=Xa Xb:=fun x=>by rw [ZlT];simp [CQ]
 rw [Zsh,e,Xj,P3 (by simp)];rfl
def s96 (l:List Int) (G:l.length < 950) (A:l.Pairwise (· < ·)) (x:Int):g96 (Ze l) x=Xa ((Zda l x:Int),decide (l[Zda l x]? = Xa x)):=by
 have s:∀ (d i j b:Nat),j-i≤d→d < b→i≤j→j≤l.length→(∀ a (f:a < l.length),a < i→l[a] < x)→(∀ a (f:a < l.length),j≤a→x≤l[a])→Ret (fun y=>y=((Zda l x:Int),decide (l[Zda l x]? = Xa x))) (ZmG b (Ze l) x (l.length:Int) (i:Int) (j:Int)):=by
  intro d
  induction d with
  | zero =>
   intro i j b C D m k o r;obtain ⟨q,rfl⟩:∃ q,b=q+1:=⟨b-1,by omega⟩;have t:j=i:=by omega
   subst t
   have u:Zda l x=j:=by
    by_cases c:j < l.length
    ·exact Zdo _ l c (by have:=r j c (Xt _);simp;omega) fun a f v=>by have:=o a f v;simp;omega
    ·have:j=l.length:=by omega
     rw [this];exact ZeT _ l fun a f=>by have:=o a f (by omega);simp;omega
   refine Zi (Zi0 ..) (Za (fun h=>?_) fun _=>Za (fun h=>?_) fun h=>Zc ?_)
   ·exfalso;simp only [CQ] at h;omega
   ·simp only [CQ] at h;have c:j < l.length:=by omega
    refine Zi (JI c _) (Za (fun g=>Zc ?_) fun g=>Zi (JI c _) (Zb (Zsr ..) (Za (fun E=>?_) fun _=>Zc ?_)))
    ·simp only [CQ] at g;rw [u,Xm c,g];simp
    ·exfalso;simp [CQ] at E
    ·simp only [CQ] at g;rw [u,Xm c];simp [g]
   ·simp only [CQ] at h;rw [u,Ur (by omega)];simp
  | succ d ih =>
   intro i j b C D m k o r;by_cases hlt:i < j
   ·obtain ⟨q,rfl⟩:∃ q,b=q+1:=⟨b-1,by omega⟩;have w:(i+j) / 2 < l.length:=by omega
    refine Zi (Zi0 ..) (Za (fun _=>Zg (by decide) ?_) fun h=>?_)
    ·rw [Zzj (by omega)];refine Zi (JI w _) (Zb (ZBt ..) (Za (fun g=>?_) fun g=>?_))
     ·have p:l[(i+j) / 2] < x:=of_decide_eq_true g;rw [Jd (n:=960) (by omega) (by omega)];refine ih _ j q (by omega) (by omega) (by omega) k (fun a f z=>?_) r;by_cases he:a=(i+j) / 2
      ·subst he;exact p
      ·have:=UB.1 A a ((i+j) / 2) f w (by omega);omega
     ·have p:¬ l[(i+j) / 2] < x:=fun h=>g (decide_eq_true h);refine ih i _ q (by omega) (by omega) (by omega) (by omega) o (fun a f z=>?_);by_cases he:a=(i+j) / 2
      ·subst he;omega
      ·have:=UB.1 A ((i+j) / 2) a w f (by omega);omega
    ·exfalso;simp only [CQ] at h;omega
   ·exact ih i j b (by omega) (by omega) m k o r
 rw [ZuX,Zcq];obtain ⟨y,e,rfl⟩:=s l.length 0 l.length ZG (by omega) (by have:=Zam (n:=l.length) (by omega);omega) (X7 _) (Xt _) (fun a _ h=>absurd h (UA a)) (fun a f h=>by omega);exact e
def s49 (b c:LL) (r:Req) (p:Int) (pa d:LL) (z:Int) (W:List Int) (i:(z::W).Pairwise (· < ·)) (k:W.length < 900):g49 0 262144 16 Xb b c r.id.c r.id.op r.id.k r.a.g r.a.r r.a.p r.a.c r.a.v r.a.o r.a.h r.a.f r.a.l r.a.n r.a.u r.a.w r.s r.i r.e.id.c r.e.id.op r.e.id.k (Zd r.e.q) r.e.d.g r.e.d.t r.e.d.h r.e.d.j r.e.d.i r.e.d.f r.e.d.m p (Ze (z::W)) pa d z=Xa (decide (W = []),oT b c r p (Ze W) pa d):=by
 have g:Zda (z::W) z=0:=Zm2
 have j:P0 .eql (Xg (Ze W):Int) 0=decide (W = []):=by
  rw [Zcq]
  cases W with
  | nil => rfl
  | cons a W => simp [CQ]; omega
 have f:Ret (fun x=>x=((decide (W = []),oT b c r p (Ze W) pa d):Qt13)) (g49 0 262144 16 Xb b c r.id.c r.id.op r.id.k r.a.g r.a.r r.a.p r.a.c r.a.v r.a.o r.a.h r.a.f r.a.l r.a.n r.a.u r.a.w r.s r.i r.e.id.c r.e.id.op r.e.id.k (Zd r.e.q) r.e.d.g r.e.d.t r.e.d.h r.e.d.j r.e.d.i r.e.d.f r.e.d.m p (Ze (z::W)) pa d z):=by
  rw [ZvX];refine Zb (s96 (z::W) (by rw [XO];omega) i z) (Za (fun h=>?_) fun _=>Zb (a:=Ze W) (by rw [g];exact ZB7 z W) (Zc ?_))
  ·rw [g] at h;simp at h
  ·rw [j];rfl
 obtain ⟨x,e,rfl⟩:=f;exact e
def s90 {f:Int} (b:0≤f∧f < 32):g90 f=Xa Xc:=by
 have a:Ret (fun r=>r=Xc) (g90 f):=by
  have e:g90 f=(if (P0 .geq f 0)=Xc then Xa ((P0 .lss f 32)) else Xa (Xb)):=by kernel_rfl
  rw [e];refine Za (fun _=>Zc ?_) fun h=>?_
  ·simp only [CQ];omega
  ·exfalso;simp only [CQ] at h;omega
 obtain ⟨r,e,rfl⟩:=a;exact e
def s80 {i:Id} (a:Kq i=Xc) (b:i.k=0):g80 i.c i.op i.k=Xa Xc:=by
 rw [ZpQ,ZuH,a,b];rfl
def ZxZ {f:Int} (a:0≤f∧f < 32) {i:Id} (b:Kq i=Xc) (c:i.k=0):g46 7 0 f 0 0 0 0 i.c i.op i.k 0 Xb 0 0 0 0 0 0 0 0 0 0 0 0 0 0 0 0 0 0 0 0 E0 0 0 0 0 0 0 Xb E0 E0 E0 E0 0 0 E0 E0 E0 E0 E0 E0 E0 E0 0 0 E0 E0 E0 E0 E0 E0 E0 E0 Xb 0 E0 E0 E0 E0 E0 E0 E0 E0=Xa Xc:=by
 rw [ZtN,s90 a,s80 b c];rfl
def ZxS {f:Int} (a:0≤f∧f < 32) {i:Id} (b:Kq i=Xc) (c:i.k=0):g46 9 0 f 0 0 0 0 i.c i.op i.k 0 Xb 0 0 0 0 0 0 0 0 0 0 0 0 0 0 0 0 0 0 0 0 E0 0 0 0 0 0 0 Xb E0 E0 E0 E0 0 0 E0 E0 E0 E0 E0 E0 E0 E0 0 0 E0 E0 E0 E0 E0 E0 E0 E0 Xb 0 E0 E0 E0 E0 E0 E0 E0 E0=Xa Xc:=by
 rw [ZvS,s90 a,s80 b c];rfl
def ZtA {f:Int} (a:0≤f∧f < 32) {i:Id} (b:Kq i=Xc) (c:i.k=0):g46 11 0 f 0 0 0 0 i.c i.op i.k 0 Xb 0 0 0 0 0 0 0 0 0 0 0 0 0 0 0 0 0 0 0 0 E0 0 0 0 0 0 0 Xb E0 E0 E0 E0 0 0 E0 E0 E0 E0 E0 E0 E0 E0 0 0 E0 E0 E0 E0 E0 E0 E0 E0 Xb 0 E0 E0 E0 E0 E0 E0 E0 E0=Xa Xc:=by
 rw [Zsn,s90 a,s80 b c];rfl
def ZtQ (a:LL) {z:Int} (g:0≤z∧z < 32) (W P:List Int) (i:P.length < 900) (j:(z::W).Pairwise (· < ·)) (d:W.length < 900) (r:Req) (k:Kq r.id=Xc) (e:r.id.k=0) (b:LL) :
  Ret (fun x=>(W = []→x=(P.map (fun z=>mM 8 z 0 r.id 0 Xb E0),E0,oT a E0 r 3 (Ze P) (Ze P) b))∧(W≠[]→x=(E0,E0,oT a E0 r 2 (Ze W) (Ze P) b))) (g16 0 262144 16 Xb a E0 r.id.c r.id.op r.id.k r.a.g r.a.r r.a.p r.a.c r.a.v r.a.o r.a.h r.a.f r.a.l r.a.n r.a.u r.a.w r.s r.i r.e.id.c r.e.id.op r.e.id.k (Zd r.e.q) r.e.d.g r.e.d.t r.e.d.h r.e.d.j r.e.d.i r.e.d.f r.e.d.m 2 (Ze (z::W)) (Ze P) b 7 0 z 0 0 0 0 r.id.c r.id.op r.id.k 0 Xb 0 0 0 0 0 0 0 0 0 0 0 0 0 0 0 0 0 0 0 0 E0 0 0 0 0 0 0 Xb E0 E0 E0 E0 0 0 E0 E0 E0 E0 E0 E0 E0 E0 0 0 E0 E0 E0 E0 E0 E0 E0 E0 Xb 0 E0 E0 E0 E0 E0 E0 E0 E0):=by
 rw [Zwy];refine Zb (ZxZ g k e) (Za (fun h=>by cases h) fun _=>Za (fun h=>?_) fun _=>Zb (s49 a E0 r 2 (Ze P) b z W j d) (Za (fun h=>?_) fun h=>?_))
 ·exfalso;simp [CQ] at h
 ·have c:W = []:=of_decide_eq_true h;subst c;exact Zb (s50 a E0 r 3 (Ze []) b P i 8) (Zc ⟨fun _=>rfl,fun h=>absurd rfl h⟩)
 ·have c:W≠[]:=fun f=>h (decide_eq_true f);have fin:Ret (fun x=>(W = []→x=(P.map (fun z=>mM 8 z 0 r.id 0 Xb E0),E0,oT a E0 r 3 (Ze P) (Ze P) b))∧(W≠[]→x=(E0,E0,oT a E0 r 2 (Ze W) (Ze P) b))) (Xa ((E0,E0,oT a E0 r 2 (Ze W) (Ze P) b):Qt12)):=Zc ⟨fun f=>absurd f c,fun _=>rfl⟩
  repeat' (refine Za (fun _=>?_) fun _=>?_)
  all_goals exact fin
def Zux (f:List Zk) (l:Kj f) (m:f.Pairwise fun a b=>lte a b=Xc) (n:f.length < 400) {z:Int} (o:0≤z∧z < 32) (W P:List Int) (p:P.length < 900) (q:(z::W).Pairwise (· < ·)) (g:W.length < 900) (r:Req) (s:Kq r.id=Xc) (i:r.id.k=0) (ds:List Id) (t:∀ d∈ds,∃ e∈f,e.b.id=d) (u:ds.Nodup) (j:ds.length < 900) :
  Ret (fun x=>(W = []→x=(P.map (fun z=>mM 10 z 0 r.id 0 Xb E0),[[I r.id.c,I r.id.op,I r.id.k,B Xc]],oT ((left f ds).map Zf) E0 r 4 (Ze P) (Ze P) (Zd ds)))∧(W≠[]→x=(E0,E0,oT (f.map Zf) E0 r 3 (Ze W) (Ze P) (Zd ds)))) (g16 0 262144 16 Xb (f.map Zf) E0 r.id.c r.id.op r.id.k r.a.g r.a.r r.a.p r.a.c r.a.v r.a.o r.a.h r.a.f r.a.l r.a.n r.a.u r.a.w r.s r.i r.e.id.c r.e.id.op r.e.id.k (Zd r.e.q) r.e.d.g r.e.d.t r.e.d.h r.e.d.j r.e.d.i r.e.d.f r.e.d.m 3 (Ze (z::W)) (Ze P) (Zd ds) 9 0 z 0 0 0 0 r.id.c r.id.op r.id.k 0 Xb 0 0 0 0 0 0 0 0 0 0 0 0 0 0 0 0 0 0 0 0 E0 0 0 0 0 0 0 Xb E0 E0 E0 E0 0 0 E0 E0 E0 E0 E0 E0 E0 E0 0 0 E0 E0 E0 E0 E0 E0 E0 E0 Xb 0 E0 E0 E0 E0 E0 E0 E0 E0):=by
 rw [ZvW];refine Zb (ZxS o s i) (Za (fun h=>by cases h) fun _=>Za (fun h=>?_) fun _=>Zb (s49 (f.map Zf) E0 r 3 (Ze P) (Zd ds) z W q g) (Za (fun h=>?_) fun h=>?_))
 ·exfalso;simp [CQ] at h
 ·have c:W = []:=of_decide_eq_true h;subst c;exact Zi (Zyb f l m n r 4 (Ze []) P p ds t u j) (Zc ⟨fun _=>rfl,fun h=>absurd rfl h⟩)
 ·have c:W≠[]:=fun k=>h (decide_eq_true k);have fin:Ret (fun x=>(W = []→x=(P.map (fun z=>mM 10 z 0 r.id 0 Xb E0),[[I r.id.c,I r.id.op,I r.id.k,B Xc]],oT ((left f ds).map Zf) E0 r 4 (Ze P) (Ze P) (Zd ds)))∧(W≠[]→x=(E0,E0,oT (f.map Zf) E0 r 3 (Ze W) (Ze P) (Zd ds)))) (Xa ((E0,E0,oT (f.map Zf) E0 r 3 (Ze W) (Ze P) (Zd ds)):Qt12)):=Zc ⟨fun k=>absurd k c,fun _=>rfl⟩
  repeat' (refine Za (fun _=>?_) fun _=>?_)
  all_goals exact fin
def ZuM (a:LL) {z:Int} (g:0≤z∧z < 32) (W P:List Int) (k:P.length < 900) (i:(z::W).Pairwise (· < ·)) (d:W.length < 900) (r:Req) (j:Kq r.id=Xc) (e:r.id.k=0) (b:LL) :
  Ret (fun x=>(W = []→x=([mM 2 r.id.c 0 r.id 0 Xc E0],E0,oT a E0 r 5 E0 (Ze P) b))∧(W≠[]→x=(E0,E0,oT a E0 r 4 (Ze W) (Ze P) b))) (g16 0 262144 16 Xb a E0 r.id.c r.id.op r.id.k r.a.g r.a.r r.a.p r.a.c r.a.v r.a.o r.a.h r.a.f r.a.l r.a.n r.a.u r.a.w r.s r.i r.e.id.c r.e.id.op r.e.id.k (Zd r.e.q) r.e.d.g r.e.d.t r.e.d.h r.e.d.j r.e.d.i r.e.d.f r.e.d.m 4 (Ze (z::W)) (Ze P) b 11 0 z 0 0 0 0 r.id.c r.id.op r.id.k 0 Xb 0 0 0 0 0 0 0 0 0 0 0 0 0 0 0 0 0 0 0 0 E0 0 0 0 0 0 0 Xb E0 E0 E0 E0 0 0 E0 E0 E0 E0 E0 E0 E0 E0 0 0 E0 E0 E0 E0 E0 E0 E0 E0 Xb 0 E0 E0 E0 E0 E0 E0 E0 E0):=by
 rw [ZvA];refine Zb (ZtA g j e) (Za (fun h=>by cases h) fun _=>Za (fun h=>?_) fun _=>Zb (s49 a E0 r 4 (Ze P) b z W i d) (Za (fun h=>?_) fun h=>?_))
 ·exfalso;simp [CQ] at h
 ·have c:W = []:=of_decide_eq_true h;subst c;exact Zb (s48 a E0 r 4 (Ze []) (Ze P) b 0 Xc E0) (Zc ⟨fun _=>rfl,fun h=>absurd rfl h⟩)
 ·have c:W≠[]:=fun f=>h (decide_eq_true f);have fin:Ret (fun x=>(W = []→x=([mM 2 r.id.c 0 r.id 0 Xc E0],E0,oT a E0 r 5 E0 (Ze P) b))∧(W≠[]→x=(E0,E0,oT a E0 r 4 (Ze W) (Ze P) b))) (Xa ((E0,E0,oT a E0 r 4 (Ze W) (Ze P) b):Qt12)):=Zc ⟨fun f=>absurd f c,fun _=>rfl⟩
  repeat' (refine Za (fun _=>?_) fun _=>?_)
  all_goals exact fin
def s15 (f:List Zk) (c:Kj f) (d:f.length < 900) (a:LL) (r:Req) (p:Int) (w pa b:LL):g15 0 262144 16 Xb (f.map Zf) a r.id.c r.id.op r.id.k r.a.g r.a.r r.a.p r.a.c r.a.v r.a.o r.a.h r.a.f r.a.l r.a.n r.a.u r.a.w r.s r.i r.e.id.c r.e.id.op r.e.id.k (Zd r.e.q) r.e.d.g r.e.d.t r.e.d.h r.e.d.j r.e.d.i r.e.d.f r.e.d.m p w pa b=Xa (f.map Zf,oT (f.map Zf) a r p w pa b):=by
 rw [Zvo,s45 f c (by omega)];rfl
def s14 (f:List Zk) (d:Kj f) (j:f.length < 900):g14 (f.map Zf) (f.map Zf)=Xa Xc:=by
 have c:Ret (fun x=>x=Xc) (g14 (f.map Zf) (f.map Zf)):=by
  rw [Zvd,Xi];refine Za (fun h=>?_) fun _=>?_
  ·exfalso;simp only [CQ] at h;omega
  ·refine Zo (F:=fun k (_:Unit) i=>ZoE k (f.map Zf) (f.map Zf) i) f.length (fun _ _=>True) (by omega) (fun k i _ g _ b=>?_) () trivial;refine Zi (Zok ..) (Za (fun h=>?_) fun _=>Zc rfl);rw [Xi] at h;simp only [CQ] at h;have a:i < f.length:=by omega
   have l:=d.q f[i] (XC a);refine Zi (ZO a _) (Zi (ZO a _) (Za (fun h=>?_) fun _=>Zi (ZO a _) (Zi (ZO a _) (Za (fun h=>?_) fun _=>Zi (ZO a _) (Zi (ZO a _) (Zb (s44 f[i].b.id.c f[i].b.id.op f[i].b.id.k f[i].b.q (by omega) ..) (Za (fun h=>by cases h) fun _=>?_)))))))
   ·exfalso;simp only [CQ] at h;exact h rfl
   ·exfalso;simp only [CQ] at h;exact h rfl
   ·rw [Jd g (by omega)];exact b a () trivial
 obtain ⟨r,e,rfl⟩:=c;exact e
def Zde (l:List Zk) (j:Id) (e:Zk):Bool:=
 match l.find? (idE j) with
 | some s => decide (e.b.d.g = 1) && inB e.b.d.t e.b.d.h s.b.d.t s.b.d.h
 | none => Xb
def Zc8 (l:List Zk) (j:Id) (e:Zk) (c:Cap):Bool:=Zbi e.b.d.t e.b.d.h c.t c.h&&!Zde l j e
def YJ (l:List Zk) (j:Id) (cs:List Cap):Bool:=l.any fun e=>cs.any fun c=>Zc8 l j e c
def Zio {l:List Zk} {j:Id} {cs:List Cap} {q i:Nat} (a:q < l.length) (b:i < cs.length) (h:Zc8 l j l[q] cs[i]=Xc):YJ l j cs=Xc:=
 Ut.2 ⟨_,XC a,Ut.2 ⟨_,XC b,h⟩⟩
def Zli {l:List Zk} {j:Id} {cs:List Cap} (h:∀ q (a:q < l.length) i (b:i < cs.length),Zc8 l j l[q] cs[i]=Xb):YJ l j cs=Xb:=by
 unfold YJ;rw [UC];intro e d;obtain ⟨q,a,rfl⟩:=Ud.1 d;rw [XT,UC];intro c f;obtain ⟨i,b,rfl⟩:=Ud.1 f;rw [h q a i b];simp
def Zrx {l:List Zk} {j:Id} (h:JL (idE j) l < l.length):l.find? (idE j)=Xa l[JL (idE j) l]:=by
 rw [← Zat,Xm h]
def ZrD {l:List Zk} {j:Id} (h:¬ JL (idE j) l < l.length):l.find? (idE j)=none:=by
 rw [← Zat,Ur (by omega)]
def ZbJ {γ:Type} {l:List Cap} {i:Nat} (h:i < l.length) (k:ShsT Zdu→Option γ):Zn (l.map Kh) (i:Int) Zdu k=k (l[i].g,l[i].t,l[i].h,l[i].j,l[i].i,l[i].f,l[i].m):=KM h k
def ZAY {P:Bool→Prop} (a:List V→Option Bool) (l:List Zk) (E:l.length < 1000) (j:Id) (cs:List Cap) (i:Nat) (G:i < cs.length) (H:∀ q (f:q < l.length),Zc8 l j l[q] cs[i]=Xc→P Xc)
  (p:(∀ q (f:q < l.length),Zc8 l j l[q] cs[i]=Xb)→Ret P (a [.l (l.map Zf),.l (cs.map Kh),.i (Zaf l.length (JL (idE j) l)),.i (P1 .add .i64 (i:Int) 1)])) :
  Ret P (Ww a ZG (l.map Zf) (cs.map Kh) (Zaf l.length (JL (idE j) l)) (i:Int) 0):=by
 refine Zo (F:=fun k (_:Unit) z=>Ww a k (l.map Zf) (cs.map Kh) (Zaf l.length (JL (idE j) l)) (i:Int) z) l.length (fun n _=>∀ q (f:q < l.length),q < n→Zc8 l j l[q] cs[i]=Xb) E (fun k n _ w J r=>?_) () (fun q _ h=>absurd h (UA q));refine Zi (Zff ..) (Za (fun h=>?_) fun h=>?_)
 ·simp only [CQ,Xi] at h;have f:n < l.length:=by omega
  have c:Zc8 l j l[n] cs[i]=Xb→Ret P (Ww a k (l.map Zf) (cs.map Kh) (Zaf l.length (JL (idE j) l)) (i:Int) (P1 .add .i64 (n:Int) 1)):=by
   intro u;rw [Jd w E];refine r f () fun q x L=>?_;by_cases he:q=n
   ·subst he;exact u
   ·exact J q x (by omega)
  have d:Zde l j l[n]=Xb→Ret P ((g32 l[n].b.d.g l[n].b.d.t l[n].b.d.h l[n].b.d.j l[n].b.d.i l[n].b.d.f l[n].b.d.m).bind fun (s:Int×Int)=>
    Zn (cs.map Kh) (i:Int) Zdu fun b=>(g32 b.1 b.2.1 b.2.2.1 b.2.2.2.1 (d4 b).1 (d4 b).2.1 b.2.2.2.2.2.2).bind fun (t:Int×Int)=>
    (g54 s.1 s.2 t.1 t.2).bind fun (y:Bool)=>if y=Xc then Xa Xc else Ww a k (l.map Zf) (cs.map Kh) (Zaf l.length (JL (idE j) l)) (i:Int) (P1 .add .i64 (n:Int) 1)):=by
   intro u;refine Zb (s32 ..) (Zi (ZbJ G _) (Zb (s32 ..) (Zb (s54 ..) (Za (fun m=>Zc (H n f ?_)) fun m=>c ?_))))
   ·unfold Zc8;rw [u,m];rfl
   ·unfold Zc8;rw [u];have:Zbi l[n].b.d.t l[n].b.d.h cs[i].t cs[i].h=Xb:=UL.2 m;rw [this];rfl
  refine Zi (ZO f _) (Za (fun g=>?_) fun g=>?_)
  ·rw [W7,P5] at g;have A:Zde l j l[n]=(decide (l[n].b.d.g=1)&&inB l[n].b.d.t l[n].b.d.h l[JL (idE j) l].b.d.t l[JL (idE j) l].b.d.h):=by unfold Zde;rw [Zrx g]
   refine Za (fun C=>?_) fun C=>?_
   ·have v:l[n].b.d.g=1:=Ju C;rw [Kg g];refine Zb (s32 ..) (Zi (ZO g _) (Zb (s32 ..) (Zb (s61 ..) (Zb (s32 ..) (Zi (ZbJ G _) (Zb (s32 ..) (Zb (s54 ..) (Za (fun m=>Za (fun D=>Zc (H n f ?_)) fun D=>?_) fun m=>?_))))))))
    ·have e:Zbi l[n].b.d.t l[n].b.d.h cs[i].t cs[i].h=Xc:=m;have o:(!inB l[n].b.d.t l[n].b.d.h l[JL (idE j) l].b.d.t l[JL (idE j) l].b.d.h)=Xc:=D;unfold Zc8;rw [A,v,e];simpa using o
    ·have e:Zbi l[n].b.d.t l[n].b.d.h cs[i].t cs[i].h=Xc:=m;have o:¬ (!inB l[n].b.d.t l[n].b.d.h l[JL (idE j) l].b.d.t l[JL (idE j) l].b.d.h)=Xc:=D;have:=c (by unfold Zc8;rw [A,v,e];simpa using o);rw [Kg g] at this;exact this
    ·have e:Zbi l[n].b.d.t l[n].b.d.h cs[i].t cs[i].h=Xb:=UL.2 m;have:=c (by unfold Zc8;rw [e];rfl);rw [Kg g] at this;exact this
   ·have v:¬ l[n].b.d.g=1:=Jv C;exact d (by rw [A,decide_eq_false v];rfl)
  ·rw [W7,P5] at g;exact d (by unfold Zde;rw [ZrD g])
 ·simp only [CQ,Xi] at h;exact p fun q f=>J q f (by omega)
def Zz2 (l:List Zk) (p:l.length < 1000) (j:Id) (cs:List Cap) (m:cs.length < 1000):g67 (l.map Zf) j.c j.op j.k (cs.map Kh)=Xa (YJ l j cs):=by
 have d:Ret (fun r=>r=YJ l j cs) (g67 (l.map Zf) j.c j.op j.k (cs.map Kh)):=by
  rw [Zqx,Zs8 l (by omega) j,Xj];refine Zo (F:=fun k (_:Unit) z=>Zka k (l.map Zf) (cs.map Kh) (Zaf l.length (JL (idE j) l)) z) cs.length (fun n _=>∀ q (a:q < l.length) i (b:i < cs.length),i < n→Zc8 l j l[q] cs[i]=Xb) m (fun k n _ f o c=>?_) () (fun q _ i _ h=>absurd h (UA i));refine Zi (Zez ..) (Za (fun h=>?_) fun h=>Zc ?_)
  ·simp only [CQ,Xi] at h;have b:n < cs.length:=by omega
   refine ZAY _ l p j cs n b (fun q a s=>(Zio a b s).symm) fun t=>?_;rw [Jd f m];refine c b () fun q a i g u=>?_;by_cases he:i=n
   ·subst he;exact t q a
   ·exact o q a i g (by omega)
  ·simp only [CQ,Xi] at h;exact (Zli fun q a i b=>o q a i b (by omega)).symm
 obtain ⟨r,e,rfl⟩:=d;exact e
def ZAP (a b c d:Int):ZzH a b c d=Xa (Zbi a b c d):=by
 rw [ZrG];simp only [Zww,Zz6,Xj]
 repeat' split
 all_goals (refine congrArg Xa ?_;rw [Z6];simp only [Zbi,ZV,ZW,ZS,ZR,ZT,ZP,ZY,ZU,ZQ,ZX,Z0,ZZ,XT,Ub,XJ,Ue,Xk,XX,P5,decide_eq_false_iff_not,XQ,Ug,Xj,Xf,false_iff,true_iff,iff_false,iff_true] at *; grind)
def Zx6 {P:Bool→Prop} (a:List V→Option Bool) (l:List Zk) (z d:Int) (f:Bool) (j:Id) (cs:List Cap) (r:cs.length < 1000) (q:Nat) (w:q < l.length) (t:Zde l j l[q]=Xb) (u:∀ i (c:i < cs.length),Zc8 l j l[q] cs[i]=Xc→P Xc)
  (e:(∀ i (c:i < cs.length),Zc8 l j l[q] cs[i]=Xb)→Ret P (a [.l (l.map Zf),.l (cs.map Kh),.i d,.b f,.l (l.map Zf),.i z,.i (P1 .add .i64 (q:Int) 1)])) :
  Ret P (Za9 a ZG (l.map Zf) (cs.map Kh) d f l[q].b.d.t l[q].b.d.h (l.map Zf) z (q:Int) (cs.map Kh) (Xg (cs.map Kh):Int) 0):=by
 refine Zo (F:=fun k (_:Unit) y=>Za9 a k (l.map Zf) (cs.map Kh) d f l[q].b.d.t l[q].b.d.h (l.map Zf) z (q:Int) (cs.map Kh) (Xg (cs.map Kh):Int) y) cs.length (fun n _=>∀ i (c:i < cs.length),i < n→Zc8 l j l[q] cs[i]=Xb) r (fun k n _ m s g=>?_) () (fun i _ h=>absurd h (UA i));refine Zi (ZnB ..) (Za (fun h=>?_) fun h=>?_)
 ·simp only [CQ,Xi] at h;have c:n < cs.length:=by omega
  refine Zi (ZbJ c _) (Zb (Zxr ..) (Zb (ZAP ..) (Za (fun o=>Zc (u n c ?_)) fun o=>?_)))
  ·unfold Zc8;rw [t,o];rfl
  ·rw [Jd m r];refine g c () fun i p v=>?_;by_cases he:i=n
   ·subst he;have:Zbi l[q].b.d.t l[q].b.d.h cs[i].t cs[i].h=Xb:=UL.2 o;unfold Zc8;rw [this];rfl
   ·exact s i p (by omega)
 ·simp only [CQ,Xi] at h;exact e fun i c=>s i c (by omega)
def ZAq (l:List Zk) (D:l.length < 1000) (j:Id) (cs:List Cap) (R:cs.length < 1000):Zu0 (l.map Zf) j.c j.op j.k (cs.map Kh)=Xa (YJ l j cs):=by
 have g:∀ (b:Int) (f:Bool),(∀ e:Zk,Zde l j e=(f&&(decide (e.b.d.g=1)&&(match l.find? (idE j) with | some s=>inB e.b.d.t e.b.d.h s.b.d.t s.b.d.h | none=>Xb))))→(f=Xc→∃ m,∃ u:m < l.length,b=(m:Int)∧l.find? (idE j)=Xa l[m])→
   Ret (fun r=>r=YJ l j cs) (Zd4 ZG (l.map Zf) (cs.map Kh) b f (l.map Zf) (Xg (l.map Zf):Int) 0):=by
  intro b f A v;refine Zo (F:=fun k (_:Unit) z=>Zd4 k (l.map Zf) (cs.map Kh) b f (l.map Zf) (Xg (l.map Zf):Int) z) l.length (fun n _=>∀ q (p:q < l.length) i (d:i < cs.length),q < n→Zc8 l j l[q] cs[i]=Xb) D (fun k n _ E Q w=>?_) () (fun q _ i _ h=>absurd h (UA q));refine Zi (Zlq ..) (Za (fun h=>?_) fun h=>Zc ?_)
  ·simp only [CQ,Xi] at h;have p:n < l.length:=by omega
   have o:(∀ i (d:i < cs.length),Zc8 l j l[n] cs[i]=Xb)→Ret (fun r=>r=YJ l j cs) (Zd4 k (l.map Zf) (cs.map Kh) b f (l.map Zf) (Xg (l.map Zf):Int) (P1 .add .i64 (n:Int) 1)):=by
    intro G;rw [Jd E D];refine w p () fun q H i d S=>?_;by_cases N:q=n
    ·subst N;exact G i d
    ·exact Q q H i d (by omega)
   have c:Zde l j l[n]=Xb→Ret (fun r=>r=YJ l j cs) (Za9 (ZmO.lp [2] 0 r0 k) ZG (l.map Zf) (cs.map Kh) b f l[n].b.d.t l[n].b.d.h (l.map Zf) (Xg (l.map Zf):Int) (n:Int) (cs.map Kh) (Xg (cs.map Kh):Int) 0):=fun G=>
    Zx6 _ l (Xg (l.map Zf):Int) b f j cs R n p G (fun i d T=>(Zio p d T).symm) o
   refine Zi (ZO p _) (Zb (Zxr ..) (Za (fun x=>?_) fun x=>c (by rw [A,UL.2 x];rfl)));obtain ⟨m,u,rfl,y⟩:=v x;refine Za (fun J=>?_) fun J=>c (by have C:¬ l[n].b.d.g=1:=Jv J;rw [A,decide_eq_false C];simp);have C:l[n].b.d.g=1:=Ju J;refine Zi (ZO u _) (Zb (Zxr ..) (Zb (ZAb ..) (Za (fun L=>?_) fun L=>c ?_)))
   ·refine o fun i d=>?_;unfold Zc8;have t:inB l[n].b.d.t l[n].b.d.h l[m].b.d.t l[m].b.d.h=Xc:=L;rw [A,x,C,y];simp [t]
   ·have t:inB l[n].b.d.t l[n].b.d.h l[m].b.d.t l[m].b.d.h=Xb:=UL.2 L;rw [A,x,C,y];simp [t]
  ·simp only [CQ,Xi] at h;exact (Zli fun q p i d=>Q q p i d (by omega)).symm
 have M:Ret (fun r=>r=YJ l j cs) (Zu0 (l.map Zf) j.c j.op j.k (cs.map Kh)):=by
  rw [Zsc];refine Zh (s55 l D j) fun r U=>?_;rcases U with ⟨rfl,hno⟩ | ⟨m,u,rfl,hid,hlo⟩
  ·have v:l.find? (idE j)=none:=List.find?_eq_none.2 fun e N=>by simpa [idE] using hno e N
   exact g 0 Xb (fun e=>by unfold Zde;rw [v];rfl) (fun h=>by cases h)
  ·have v:l.find? (idE j)=Xa l[m]:=by
    rw [← Zat];have:JL (idE j) l=m:=Zdo _ l u (by simpa [idE] using hid) fun a W O=>by simpa [idE] using hlo a W O
    rw [this,Xm u]
   exact g (m:Int) Xc (fun e=>by unfold Zde;rw [v];simp) (fun _=>⟨m,u,rfl,v⟩)
 obtain ⟨r,e,rfl⟩:=M;exact e
def Zl2 {b:Type} {q:b→Bool} {l:List b} (h:l.any q=Xb):¬ P0 .geq (Zaf l.length (JL q l)) 0=Xc:=by
 rw [W7,P5];intro a;have:=KX q l a;rw [UC] at h;exact h _ (XC a) this
def Zzv (l:List Zk) (h:Kj l) (x:Zk) (E:x.b.q.length≤20) (w:l.any (idE x.b.id)=Xb) (y:l.any (plE x.c x.r)=Xb):Ret (fun r=>∃ m,Zp9 l x m∧r=(m.map Zf,Xc)) (Zts (l.map Zf) x.c x.r x.b.id.c x.b.id.op x.b.id.k (Zd x.b.q) x.b.d.g x.b.d.t x.b.d.h x.b.d.j x.b.d.i x.b.d.f x.b.d.m):=by
 have o:l.length < 2^63:=by have:=h.len;omega
 rw [ZmP,Zs8 l o x.b.id,Xj];refine Za (fun h=>absurd h (Zl2 w)) fun q=>?_;rw [Zzt l o,Xj];refine Za (fun h=>absurd h (Zl2 y)) fun v=>?_;have A:=ZiP _ _ q;have C:=ZiP _ _ v
 have c:∀ (i:Nat),i≤l.length→(∀ j (h:j < l.length),j < i→lte x l[j]=Xb)→(∀ h:i < l.length,lte x l[i]=Xc)→Ret (fun r=>∃ m,Zp9 l x m∧r=(m.map Zf,Xc)) (Zl ((0:Int)≤(i:Int))<|Zl ((i:Int)≤(Xg (l.map Zf):Int))<|
   (g22 (List.take (Xh (i:Int)) (l.map Zf))).bind fun (b:LL)=>(g30 x.b.id.c x.b.id.op x.b.id.k (Zd x.b.q) x.b.d.g x.b.d.t x.b.d.h x.b.d.j x.b.d.i x.b.d.f x.b.d.m).bind fun a=>
   Zl (ZB b (E0++[[I x.c,I x.r,I a.1,I a.2.1,I a.2.2.1,AV.slice Xb 3 a.2.2.2.1,I (d4 a).1,I (d4 a).2.1,I (d6 a).1,I (d6 a).2.1,I (d8 a).1,I (d8 a).2.1,B a.2.2.2.2.2.2.2.2.2.2]]) 120)<|
   Zl ((0:Int)≤(i:Int))<|Zl ((i:Int)≤(Xg (l.map Zf):Int))<|(g22 (Xz (Xh (i:Int)) (l.map Zf))).bind fun (d:LL)=>
   Zl (ZB (b++(E0++[[I x.c,I x.r,I a.1,I a.2.1,I a.2.2.1,AV.slice Xb 3 a.2.2.2.1,I (d4 a).1,I (d4 a).2.1,I (d6 a).1,I (d6 a).2.1,I (d8 a).1,I (d8 a).2.1,B a.2.2.2.2.2.2.2.2.2.2]])) d 120)<|
   Xa (((b++(E0++[[I x.c,I x.r,I a.1,I a.2.1,I a.2.2.1,AV.slice Xb 3 a.2.2.2.1,I (d4 a).1,I (d4 a).2.1,I (d6 a).1,I (d6 a).2.1,I (d8 a).1,I (d8 a).2.1,B a.2.2.2.2.2.2.2.2.2.2]]))++d),Xc)):=by
  intro i f s t;have G:=h.len;refine Zg (by omega) (Zg (by rw [Xi];omega) ?_);rw [Ua,← Um,← Uq,s22 _ (Vd h (fun e u=>XL u) (by simp;omega)),Xj,s30 x.b (by omega),Xj];refine Zg (Zj (by simp;omega) (by omega)) (Zg (by omega) (Zg (by rw [Xi];omega) ?_));rw [s22 _ (Vd h (fun e u=>XR u) (by simp)),Xj];refine Zg (Zj (by simp;omega) (by omega)) (Zc ⟨_,⟨i,f,s,t,A,C,rfl⟩,?_⟩);simp [Zf,ZfF]
 refine VU (F:=fun k (_:Unit) z=>WT k (l.map Zf) x.c x.r x.b.id.c x.b.id.op x.b.id.k (Zd x.b.q) x.b.d.g x.b.d.t x.b.d.h x.b.d.j x.b.d.i x.b.d.f x.b.d.m z) (n:=l.length) (fun i _=>∀ j (h:j < l.length),j < i→lte x l[j]=Xb) o (fun k i _ f p ih=>?_) (fun k _ p=>?_) () (fun j _ D=>absurd D (UA _))
 ·show Ret _ (WT (k+1) _ _ _ _ _ _ _ _ _ _ _ _ _ _ _);rw [WS,Xi,P4 (Za0 f)];refine Zi (Zz f _) ?_;simp only [Yk,d2,d4,d8,P2,d6,df,dg,dh,di,dj,dk,dl];rw [ZAs,Xj];refine Za (fun g=>?_) fun g=>?_
  ·rw [ZaG f o];refine ih () fun j q v=>?_;by_cases hji:j < i
   ·exact p j q hji
   ·have:j=i:=by omega
    subst this;rw [XJ] at g;exact g
  ·have:=c i (by omega) p fun _=>by rw [XJ,Ub] at g;exact g
   rw [Xi] at this;exact this
 ·show Ret _ (WT (k+1) _ _ _ _ _ _ _ _ _ _ _ _ _ _ _);rw [WS,Xi,P3 (ZaQ (Xt _))];have:=c l.length (Xt _) p fun h=>absurd h (Nat.lt_irrefl _);rw [Xi] at this;exact this
def Zot {l m:List Zk} {x:Zk} (h:Zp9 l x m):m=Va l x:=by
 obtain ⟨i,e,a,c,_,_,rfl⟩:=h
 have d:ZpO l x=i:=by
  rcases Nat.lt_or_ge i l.length with hlt | hge
  ·exact Zdo _ l hlt (c hlt) a
  ·have:i=l.length:=by omega
   subst this;exact ZeT _ l fun j b=>a j b b
 unfold Va;rw [d,List.append_assoc,List.singleton_append]
def ZfV (l:List Zk) (x:Zk):Prop:=(∀ e∈l,e.b.id≠x.b.id)∧∀ e∈l,¬ (e.c=x.c∧e.r=x.r)
def ZyZ (l:List Zk) (h:Kj l) (x:Zk) (c:x.b.q.length≤20) (b:ZfV l x):Zts (l.map Zf) x.c x.r x.b.id.c x.b.id.op x.b.id.k (Zd x.b.q) x.b.d.g x.b.d.t x.b.d.h x.b.d.j x.b.d.i x.b.d.f x.b.d.m=Xa ((Va l x).map Zf,Xc):=by
 have d:l.any (idE x.b.id)=Xb:=by rw [UC];intro e a;simpa [idE] using b.1 e a
 have f:l.any (plE x.c x.r)=Xb:=by rw [UC];intro e a;have:=b.2 e a;simp only [plE,Xk,P5];exact this
 obtain ⟨r,e,m,g,rfl⟩:=Zzv l h x c d f;rw [e,Zot g]
def Zem {l:List Zk} {x e:Zk} : e∈Va l x↔e∈l∨e=x:=by
 unfold Va;rw [Xq,Xr];constructor
 ·rintro (h | h | h)
  ·exact .inl (XL h)
  ·exact .inr h
  ·exact .inl (XR h)
 ·rintro (h | h)
  ·rw [← UH (ZpO l x) l,Xq] at h;rcases h with h | h
   ·exact .inl h
   ·exact .inr (.inr h)
  ·exact .inr (.inl h)
def Kw (l xs:List Zk):Prop:=(∀ x∈xs,ZfV l x)∧xs.Pairwise fun a b=>a.b.id≠b.b.id∧¬ (a.c=b.c∧a.r=b.r)
def Kw.tail {l xs:List Zk} {x:Zk} (h:Kw l (x::xs)):Kw (Va l x) xs:=by
 obtain ⟨c,f⟩:=h;obtain ⟨d,g⟩:=Ta.1 f;refine ⟨fun y b=>⟨fun e a=>?_,fun e a=>?_⟩,g⟩
 ·rcases Zem.1 a with a | rfl
  ·exact (c y (UD _ b)).1 e a
  ·exact (d y b).1
 ·rcases Zem.1 a with a | rfl
  ·exact (c y (UD _ b)).2 e a
  ·exact (d y b).2
def Jm (l xs:List Zk):List Zk:=xs.foldl Va l
def Kw.drop:∀ {xs l:List Zk} (i:Nat),Kw l xs→Kw (Jm l (xs.take i)) (xs.drop i)
 | [], l, i, h => by simpa [Jm] using h
 | x :: xs, l, 0, h => h
 | x :: xs, l, i + 1, h => by
  show Kw (Jm (Va l x) (xs.take i)) (xs.drop i);exact Kw.drop i h.tail
def Za6:∀ (xs l:List Zk),(Jm l xs).length=l.length+xs.length
 | [], l => rfl
 | x :: xs, l => by
  show (Jm (Va l x) xs).length=_;rw [Za6 xs,ZrY,XO];omega
def ZdB:∀ {xs l:List Zk} {e:Zk},e∈Jm l xs↔e∈l∨e∈xs
 | [], l, e => by simp [Jm]
 | x :: xs, l, e => by
  show e∈Jm (Va l x) xs↔_;rw [ZdB,Zem,Xr];constructor
  ·rintro ((h | h) | h)
   ·exact .inl h
   ·exact .inr (.inl h)
   ·exact .inr (.inr h)
  ·rintro (h | h | h)
   ·exact .inl (.inl h)
   ·exact .inl (.inr h)
   ·exact .inr h
def Zeg {l xs:List Zk} (h:Kj l) (a:l.length+xs.length≤1000) (b:∀ x∈xs,x.b.q.length≤20):Kj (Jm l xs):=
 ⟨by rw [Za6];exact a,fun e c=>(ZdB.1 c).elim (h.q e) (b e)⟩
def Zcr (l:List Zk) (xs:List Zk) {i:Nat} (a:i < xs.length):Jm l (xs.take (i+1))=Va (Jm l (xs.take i)) xs[i]:=by
 rw [TP a];unfold Jm;rw [List.foldl_append];rfl
def JE (k d:Int) (a:List Yt):List Zk:=a.mapIdx fun i n=>⟨k,d+(i:Int),n⟩
def YC (k d:Int) (a:List Yt):(JE k d a).length=a.length:=by simp [JE]
def ZaU (k d:Int) (a:List Yt) {i:Nat} (b:i < a.length):(JE k d a)[i]'(by rw [YC];exact b)=⟨k,d+(i:Int),a[i]⟩:=by simp [JE]
def crN (cr:List (Int×Int)) (a:List Yt):List (Int×Int):=match a with | []=>cr | n::_=>cr++[(n.id.c,n.id.op)]
def ZwD (m:Mc) (k d:Int) (S:0≤d) (M:d < 1000) (a:List Yt) (N:Kj m.l) (G:m.l.length+a.length≤900) (H:∀ n∈a,n.q.length≤20) (O:m.cr.length≤900) (Q:Kw m.l (JE k d a)) :
  g68 (Ze m.ws) m.st m.p (m.rs.map JQ) m.os (m.l.map Zf) m.tabs m.mem m.been (m.cr.map crc) k d (a.map Wd)=Xa (mT { m with l:=Jm m.l (JE k d a),cr:=crN m.cr a }):=by
 have u:∀ x∈JE k d a,x.b.q.length≤20:=fun x v=>by
  obtain ⟨i,c,rfl⟩:=Ud.1 v;rw [YC] at c;rw [ZaU k d a c];exact H _ (XC c)
 have w:Ret (fun r=>r=mT { m with l:=Jm m.l (JE k d a),cr:=crN m.cr a }) (g68 (Ze m.ws) m.st m.p (m.rs.map JQ) m.os (m.l.map Zf) m.tabs m.mem m.been (m.cr.map crc) k d (a.map Wd)):=by
  rw [Zqe];refine Zo (F:=fun q (s:LL) z=>Znl q (Ze m.ws) m.st m.p (m.rs.map JQ) m.os s m.tabs m.mem m.been (m.cr.map crc) k d (a.map Wd) z) a.length (fun i s=>s=(Jm m.l ((JE k d a).take i)).map Zf) (by omega) ?_ (m.l.map Zf) rfl;rintro q i s c rfl g;refine Zi (ZjC ..) (Za (fun y=>?_) fun A=>?_)
  ·simp only [CQ,Xi] at y;have b:i < a.length:=by omega
   have h:i < (JE k d a).length:=by rw [YC];exact b
   refine Zi (V5 b _) ?_;have R:P1 .add .i64 d (i:Int)=d+i:=JP (by omega) (by omega);rw [R,Jd c (by omega)];have j:=Q.drop i;rw [Tj h] at j;have o:=j.1 _ (UX ..);have t:Kj (Jm m.l ((JE k d a).take i)):=Zeg N (by rw [Xu,YC];omega) fun x v=>u x (XL v);rw [ZaU k d a b] at o;have e:=ZyZ _ t ⟨k,d+(i:Int),a[i]⟩ (H _ (XC b)) o;refine Zb e (g b _ ?_);rw [Zcr m.l _ h,ZaU k d a b]
  ·simp only [CQ,Xi] at A;have C:i=a.length:=by omega
   subst C;rw [Uc (by rw [YC];exact Xt _)];refine Za (fun D=>?_) fun E=>Zc ?_
   ·simp only [CQ,Xi] at D;have J:0 < a.length:=by omega
    have L:∀ {γ:Type} (f:ShsT Zb5→Option γ),Zn (a.map Wd) 0 Zb5 f=f (ZfF a[0]):=fun f=>V5 J f;refine Zg (Zj (by simp;omega) (by decide)) (Zi (L _) (Zi (L _) (Zg (Zj (by simp;omega) (by decide)) (Zc ?_))));obtain ⟨n,r,rfl⟩:∃ n r,a=n::r:=by cases a with | nil=>simp at J | cons n r=>exact ⟨n,r,rfl⟩
    simp [mT,crc,ZfF,crN]
   ·simp only [CQ,Xi] at E;have:a = []:=Uh (by omega);subst this;rfl
 obtain ⟨r,e,rfl⟩:=w;exact e
def ZCd (l:List Zk) (h:Kj l) (k:l.Pairwise fun a b=>lte a b=Xc) (q:Nat) (f:q < l.length):g76 (l.map Zf) l[q].b.id.c l[q].b.id.op l[q].b.id.k=Xa ((l.take q++l.drop (q+1)).map Zf,Xc):=by
 have o:=h.len
 have c:JL (idE l[q].b.id) l=q:=Zdo _ l f (by simp [idE]) fun a g m=>by
  have:=Zje k a q g f;simp only [idE,decide_eq_false_iff_not];intro d;have:=this d;omega
 have i:Ret (fun r=>r=((l.take q++l.drop (q+1)).map Zf,Xc)) (g76 (l.map Zf) l[q].b.id.c l[q].b.id.op l[q].b.id.k):=by
  rw [Zp0,Zs8 l (by omega) l[q].b.id,Xj,c,Kg f];refine Za (fun j=>?_) fun _=>?_
  ·simp only [CQ] at j;omega
  have n:P1 .add .i64 (q:Int) 1=((q+1:Nat):Int):=by rw [JP (by omega) (by omega)];omega
  rw [n,Ua,Ua,← Um,← Uq];refine Zg (by omega) (Zg (by rw [Xi];omega) (Zb (s22 _ (Vd h (fun e d=>XL d) (by simp;omega))) (Zg (by omega) (Zg (by rw [Xi];omega) (Zb (s22 _ (Vd h (fun e d=>XR d) (by simp))) (Zg (Zj (by simp;omega) (by decide)) (Zc (by simp))))))))
 obtain ⟨r,e,rfl⟩:=i;exact e
def ZAL (f:List Zk) (c:Kj f) (u:f.length < 900) (i:Id):g77 (f.map Zf) i.c i.op i.k=Xa ((f.filter fun e=>!e.b.q.contains i).map Zf):=by
 have d:Kj (f.filter fun e=>!e.b.q.contains i):=⟨by have:=c.len;exact XN (U9 _ _) this,fun e q=>c.q e ((Uu.1 q).1)⟩
 have g:Ret (fun x=>x=(f.filter fun e=>!e.b.q.contains i).map Zf) (g77 (f.map Zf) i.c i.op i.k):=by
  rw [Zqq];refine Zo (F:=fun k (s:LL) z=>Zkb k (f.map Zf) i.c i.op i.k s z) f.length (fun j s=>s=((f.take j).filter fun e=>!e.b.q.contains i).map Zf) (by omega) (fun k j s m n b=>?_) E0 rfl;refine Zi (ZeS ..) (Za (fun h=>?_) fun h=>?_)
  ·simp only [CQ,Xi] at h;have a:j < f.length:=by omega
   have v:=c.q f[j] (XC a);subst n
   have o:(((f.take j).filter fun e=>!e.b.q.contains i).map Zf).length≤900:=by
    rw [Xi];exact XN (U9 _ _) (by rw [Xu];omega)
   have t:∀ x:List AV,ZB (((f.take j).filter fun e=>!e.b.q.contains i).map Zf) (E0++[x]) 120:=fun x=>Zj (by rw [X9,TO];omega) (by decide);have p:=ZeA (fun e:Zk=>!e.b.q.contains i) f a;refine Zi (ZO a _) (Zb (Zys f[j].b.q (by omega) i) (Za (fun l=>Zi (ZO a _) (Zg (t _) ?_)) fun l=>?_))
   ·rw [Jd m (by omega)];refine b a _ ?_;rw [p,P4 l,Us];rfl
   ·rw [Jd m (by omega)];refine b a _ ?_;rw [p,P3 l,UG]
  ·simp only [CQ,Xi] at h;rw [n,Uc (by omega)];exact Zb (s22 _ d) (Zc rfl)
 obtain ⟨r,e,rfl⟩:=g;exact e
def POk (m:Mc) (k op:Int) (c:Call) (r:Req):Prop:=
 (c.g=1∧(0≤c.p∧c.p < m.p∧6≤c.h∧c.h≤40)∧JW c.l c.h=Xc∧0≤JY m.rs c.l c.h∧tkB m.l k c.p 1=Xb∧r=⟨⟨k,op,0⟩,c,JY m.rs c.l c.h,wOf m k,VH⟩)∨
 (∃ s,wfD m k c∧(2≤c.g∧c.g≤6)∧atE m.l k c.r=Xa s∧r=⟨⟨k,op,0⟩,c,JY m.rs s.b.d.t s.b.d.h,wOf m k,s.b⟩∧
  (c.g=2→JN s.b.d c.o c.h c.f (wOf m k) c.l c.n=0∧tkB m.l k c.p c.n=Xb∧s.b.q.length≠8)∧
  (c.g=3→tkB m.l k c.p 1=Xb∧s.b.q.length≠8)∧
  (c.g=4→¬ (s.b.d.g=3∨s.b.d.g=5∨s.b.d.g=6)∧P1 .and .i64 s.b.d.j 4≠0∧s.b.q.length≠8∧0≤c.c∧c.c < (m.ws.length:Int)))
def Zoa {m:Mc} {j:Nat} (h:WfM m j) {op:Int} (r:1≤op∧op≤1073741824) {k:Int} (N:0≤k∧k < (m.ws.length:Int)) {c:Call} (d:(Zcp k op (wOf m k) (Vj m.l k m.p.toNat) m.rs ((XK m.ws.length).map fun (i:Nat)=>(i:Int)) c).2.2=0) :
  POk m k op c (Zcp k op (wOf m k) (Vj m.l k m.p.toNat) m.rs ((XK m.ws.length).map fun (i:Nat)=>(i:Int)) c).1:=by
 have v:∀ e∈m.l,Jw e.b=Xc:=fun e y=>(h.lok.ent e y).ok;have O:=h.p0;have Q:=h.w4;have G:((m.p.toNat:Nat):Int)=m.p:=by omega
 have A:((Vj m.l k m.p.toNat).length:Int)=m.p:=by rw [Zjt];exact G
 have t:wOf m k=32∨wOf m k=39:=by
  have H:k.toNat < m.ws.length:=by omega
  have:wOf m k=m.ws[k.toNat]:=by simp [wOf,H]
  rw [this];exact h.ww _ (XC H)
 have g:Zbk k op (wOf m k) (Vj m.l k m.p.toNat).length c=wfB k m.p c:=by
  unfold Zbk;rw [A,decide_eq_true ⟨N.1,by omega,r.1,r.2,t⟩,Bool.true_and]
 have n:Zgm (Vj m.l k m.p.toNat) c=Xb:=by
  unfold Zgm;rw [UC];intro x _;rw [Zf7 (fun s R=>?_) x]
  ·decide
  ·obtain ⟨i,_,rfl⟩:=Xs.1 R;exact ⟨rfl,rfl⟩
 have S:Zcp k op (wOf m k) (Vj m.l k m.p.toNat) m.rs ((XK m.ws.length).map fun (i:Nat)=>(i:Int)) c=if wfB k m.p c=Xb then (Zfi,[],1) else Zhe k op (wOf m k) (Vj m.l k m.p.toNat) m.rs ((XK m.ws.length).map fun (i:Nat)=>(i:Int)) c:=by
  unfold Zcp;rw [g,n];simp
 rw [S] at d ⊢
 cases hw:wfB k m.p c with
 | false =>
  rw [hw,P4 rfl] at d;exact absurd d (by decide)
 | true =>
  rw [hw,P3 (by decide)] at d;rw [P3 (by decide)];have w:=of_decide_eq_true hw;unfold Zhe at d ⊢;by_cases k1:c.g=1
  ·have J:0≤c.p∧c.p < m.p∧6≤c.h∧c.h≤40:=by clear d;omega
   rw [P4 k1] at d ⊢;by_cases hc:Ke (Vj m.l k m.p.toNat) m.rs c≠0
   ·rw [P4 hc] at d;exact absurd d hc
   ·rw [P3 hc];obtain ⟨T,U,L⟩:=Zm5 (Decidable.not_not.1 hc);rw [Za4 v k J.1 (by decide) (by omega)] at L;exact .inl ⟨k1,J,T,U,L,rfl⟩
  ·rw [P3 k1] at d ⊢
   have f:wfD m k c:=by
    refine ⟨?_,fun M=>?_,fun M=>?_,fun M=>?_⟩ <;> (clear d;omega)
   have C:2≤c.g∧c.g≤6:=by clear d;omega
   have o:=f.1;have u:=ZmN (l:=m.l) (k:=k) (q:=m.p.toNat) o.1 (by rw [G];exact o.2);rw [u] at d ⊢;by_cases hsr:ZnQ (wOf m k) (Vj m.l k m.p.toNat) ((XK m.ws.length).map fun (i:Nat)=>(i:Int)) ⟨atN (atE m.l k c.r),0,zid⟩ c≠0
   ·rw [P4 hsr] at d;exact absurd d hsr
   ·rw [P3 hsr] at d ⊢;have b:=Decidable.not_not.1 hsr
    cases hat:atE m.l k c.r with
    | none =>
     rw [hat] at b;unfold ZnQ at b;rw [P4 (show Y2 ⟨atN none,0,zid⟩=Xc from decide_eq_true (show VH.id=zid from rfl))] at b;exact absurd b (by decide)
    | some s =>
     rw [hat] at d b;have y:=h.lok.ent s (UE hat)
     have D:Y2 ⟨atN (Xa s),0,zid⟩=Xb:=by
      have:=Zfx v k c.r.toNat;unfold YK at this;rw [Int.toNat_of_nonneg o.1,hat] at this;exact this
     rw [P3 (c:=JY m.rs (atN (Xa s)).d.t (atN (Xa s)).d.h < 0) (Int.not_lt.2 y.rg)];unfold ZnQ at b;rw [D,P3 (by decide)] at b;have a:Zqj (wOf m k) (Vj m.l k m.p.toNat) ((XK m.ws.length).map fun (i:Nat)=>(i:Int)) s.b c=0:=b;have Y:=(Z4 y.ok).2.2.1;have W:(8≤s.b.q.length)↔s.b.q.length=8:=by omega
     unfold Zqj at a;simp only [W,Znp] at a;refine .inr ⟨s,f,C,hat,rfl,fun z=>?_,fun E=>?_,fun X=>?_⟩
     ·rw [P4 z,Za4 v k (f.2.1 z).2.2.1 (by have:=(f.2.1 z).1;omega) (by have:=(f.2.1 z).2.2.2;omega)] at a;by_cases a1:JN s.b.d c.o c.h c.f (wOf m k) c.l c.n≠0
      ·rw [P4 a1] at a;exact absurd a a1
      ·rw [P3 a1] at a;by_cases a2:tkB m.l k c.p c.n=Xc
       ·rw [P4 a2] at a;exact absurd a (by decide)
       ·rw [P3 a2] at a;by_cases a3:s.b.q.length=8
        ·rw [P4 a3] at a;exact absurd a (by decide)
        ·exact ⟨Decidable.not_not.1 a1,UL.2 a2,a3⟩
     ·rw [P3 (by omega),P4 E,Za4 v k (f.2.2.1 E).1.1 (by decide) (by have:=(f.2.2.1 E).1.2;omega)] at a;by_cases a2:tkB m.l k c.p 1=Xc
      ·rw [P4 a2] at a;exact absurd a (by decide)
      ·rw [P3 a2] at a;by_cases a3:s.b.q.length=8
       ·rw [P4 a3] at a;exact absurd a (by decide)
       ·exact ⟨UL.2 a2,a3⟩
     ·rw [P3 (by omega),P3 (by omega),P4 X] at a;by_cases a1:s.b.d.g=3∨s.b.d.g=5∨s.b.d.g=6
      ·rw [P4 a1] at a;exact absurd a (by decide)
      ·rw [P3 a1] at a;by_cases a2:P1 .and .i64 s.b.d.j 4=0
       ·rw [P4 a2] at a;exact absurd a (by decide)
       ·rw [P3 a2] at a;by_cases a3:s.b.q.length=8
        ·rw [P4 a3] at a;exact absurd a (by decide)
        ·rw [P3 a3] at a;by_cases a4:0≤c.c∧c.c < (m.ws.length:Int)
         ·exact ⟨a1,a2,a3,a4⟩
         ·rw [P4 (decide_eq_false a4)] at a;exact absurd a (by decide)
def Zv5 {l:List Zk} {k d n:Int} (h:tkB l k d n=Xb):∀ e∈l,∀ i:Nat,(i:Int) < n→¬ (e.c=k∧e.r=d+(i:Int)):=by
 intro e b i c a;unfold tkB at h;rw [UC] at h;have:=h i (Uf.2 (by omega));apply this;unfold atE;rw [List.find?_isSome];exact ⟨e,b,by simp [plE,a.1,a.2]⟩
def Zuj {l:List Zk} {k d:Int} (h:tkB l k d 1=Xc):∃ e∈l,e.c=k∧e.r=d:=by
 unfold tkB at h;obtain ⟨i,f,a⟩:=Ut.1 h;have b:i=0:=by have:=Uf.1 f;omega
 subst b;unfold atE at a;rw [List.find?_isSome] at a;obtain ⟨e,g,c⟩:=a;simp only [plE,Xk,P5] at c;exact ⟨e,g,c.1,by rw [c.2];simp⟩
def Yq {m:Mc} {j o:Nat} (h:WfM m j) (c:j < o) {k d:Int} (f:tkB m.l k d 1=Xb) {n:Yt} (g:n.id.op=(o:Int)):ZfV m.l ⟨k,d,n⟩:=by
 refine ⟨fun e a i=>?_,fun e a b=>Zv5 f e a 0 (by decide) ⟨b.1,by rw [b.2];simp⟩⟩;have:=(h.lok.ent e a).op;rw [i,g] at this;omega
def Zck (c:Call):Cap:=⟨1,c.l,c.h,7,0,0,Xb⟩
def ZoZ (k:Int) (o:Nat) (c:Call):Yt:=⟨⟨k,(o:Int),0⟩,[],Zck c⟩
def Zxl (s:Yt) (a:Int):Cap:={ s.d with j:=P1 .and .i64 s.d.j a }
def Ze7 (s:Yt) (k:Int) (o:Nat) (a:Int):Yt:=Ji s ⟨k,(o:Int),0⟩ (Zxl s a)
def ZeM (s:Yt) (k:Int) (o:Nat) (cs:List Cap):List Yt:=cs.mapIdx fun i x=>Ji s ⟨k,(o:Int),(i:Int)⟩ x
def YE (s:Yt) (k:Int) (o:Nat) (cs:List Cap):(ZeM s k o cs).length=cs.length:=by simp [ZeM]
def Zey (s:Yt) (k:Int) (o:Nat) (cs:List Cap) {i:Nat} (a:i < cs.length):(ZeM s k o cs)[i]'(by rw [YE];exact a)=Ji s ⟨k,(o:Int),(i:Int)⟩ cs[i]:=by simp [ZeM]
def VW (k d:Int) (n:Yt):JE k d [n] = [⟨k,d,n⟩]:=by simp [JE]
def KR {l:List Zk} {x:Zk} (h:ZfV l x):Kw l [x]:=⟨fun y a=>by rw [XF.1 a];exact h,Ty _ _⟩
def WK {m:Mc} {j o:Nat} (h:WfM m j) (t:j < o) {k d:Int} (s:Yt) (cs:List Cap) (u:tkB m.l k d (cs.length:Int)=Xb):Kw m.l (JE k d (ZeM s k o cs)):=by
 have c:(JE k d (ZeM s k o cs)).length=cs.length:=by rw [YC,YE]
 have f:∀ i (g:i < cs.length),(JE k d (ZeM s k o cs))[i]'(by rw [c];exact g)=⟨k,d+(i:Int),Ji s ⟨k,(o:Int),(i:Int)⟩ cs[i]⟩:=fun i g=>by
  rw [ZaU k d _ (by rw [YE];exact g),Zey s k o cs g]
 refine ⟨fun x v=>?_,?_⟩
 ·obtain ⟨i,g,rfl⟩:=Ud.1 v;rw [c] at g;rw [f i g];refine ⟨fun e n p=>?_,fun e n=>Zv5 u e n i (by omega)⟩;have:=(h.lok.ent e n).op;rw [p] at this;simp only [Ji] at this;omega
 ·rw [UB];intro a b q r w;rw [c] at q r;rw [f a q,f b r];refine ⟨fun n=>?_,fun n=>?_⟩
  ·have:=congrArg Id.k n;simp only [Ji] at this;omega
  ·have:=n.2;simp only at this;omega
set_option maxHeartbeats 4000000 in
def ZBI (m:Mc) {j o:Nat} (h:WfM m j) (g:j < o) (T:o≤100) (k:Int) (U:0≤k∧k < (m.ws.length:Int)) (c:Call) (a:m.rs = [⟨262144,16,Xb⟩]) (x:0≤c.p∧c.p < m.p∧6≤c.h∧c.h≤40) (H:JW c.l c.h=Xc) (y:0≤JY m.rs c.l c.h) (z:tkB m.l k c.p 1=Xb) :
  g34 (Ze m.ws) m.st m.p (m.rs.map JQ) m.os (m.l.map Zf) m.tabs m.mem m.been (m.cr.map crc) k (o:Int) c.g c.r c.p c.c c.v c.o c.h c.f c.l c.n c.u c.w=Xa (if YJ m.l ⟨0,0,0⟩ [Zck c]=Xc then (7,mT m) else (0,mT { m with l:=Va m.l ⟨k,c.p,ZoZ k o c⟩,cr:=m.cr++[(k,(o:Int))] })):=by
 have J:m.l.length < 2^63:=by have:=h.len;omega
 have L:m.l.length≤800:=by have:=h.len;omega
 have M:=h.w4;have N:=h.p1;have O:=h.r3;have Q:=h.crl;have i:Kj m.l:=h.lok.few (by omega)
 have q:Ret (fun r=>r=if YJ m.l ⟨0,0,0⟩ [Zck c]=Xc then (7,mT m) else (0,mT { m with l:=Va m.l ⟨k,c.p,ZoZ k o c⟩,cr:=m.cr++[(k,(o:Int))] })) (g34 (Ze m.ws) m.st m.p (m.rs.map JQ) m.os (m.l.map Zf) m.tabs m.mem m.been (m.cr.map crc) k (o:Int) c.g c.r c.p c.c c.v c.o c.h c.f c.l c.n c.u c.w):=by
  rw [ZpV,s65,Xj];refine Za (fun A=>?_) fun A=>Za (fun C=>?_) fun C=>Za (fun D=>?_) fun D=>Zb (s26 c.l c.h) (Za (fun s=>?_) fun s=>Zb (s27 m.rs (by omega) c.l c.h) (Za (fun E=>?_) fun E=>Zb (s66 m J h.paths k c.p 1 x.1 (by omega) (by decide)) (Za (fun G=>?_) fun G=>?_)))
  ·simp at A;omega
  ·simp only [CQ] at C;omega
  ·simp only [CQ] at D;omega
  ·rw [H] at s;cases s
  ·simp only [CQ] at E;omega
  ·have b:tkB m.l k c.p 1=Xc:=G;rw [z] at b;cases b
  have t:JY m.rs c.l c.h=((0:Nat):Int):=by have:=Zmn m.rs _ _ y;rw [a] at this ⊢; simp at this;rw [a] at y;omega
  have R:0 < m.rs.length:=by rw [a];decide
  rw [t];refine Zi (Kl R _) ?_;have d:m.rs[0].dev=Xb:=by simp only [a];rfl
  have u:=Zz2 m.l (by omega) ⟨0,0,0⟩ [Zck c] (by simp);rw [d];refine Zb u (Za (fun v=>?_) fun v=>?_)
  ·refine Zc ?_;rw [P4 v]
  ·have w:=Yq h g z (n:=ZoZ k o c) rfl;have f:=ZwD m k c.p x.1 (by omega) [ZoZ k o c] i (by simp;omega) (fun n S=>by rw [XF.1 S];exact X7 _) (by omega) (by rw [VW];exact KR w);rw [VW] at f;refine Zb f (Zc ?_);rw [P3 v];rfl
 obtain ⟨r,e,rfl⟩:=q;exact e
set_option maxHeartbeats 4000000 in
def ZBw (m:Mc) {j o:Nat} (h:WfM m j) (d:j < o) (ho:o≤100) (k:Int) (U:0≤k∧k < (m.ws.length:Int)) (c:Call) {s:Zk} (f:EM m.ws.length m.p m.rs j s) (W:1≤c.n∧c.n≤8∧0≤c.p∧c.p≤m.p-c.n) (hz:JN s.b.d c.o c.h c.f (wOf m k) c.l c.n=0) (cs:List Cap) (g:Yl s.b.d c.o c.h c.f (wOf m k) c.l c.n=cs.map Kh) (t:cs.length=c.n.toNat) (G:∀ x∈cs,J0 x=Xc∧inB s.b.d.t s.b.d.h x.t x.h=Xc) (X:tkB m.l k c.p c.n=Xb) (u:s.b.q.length≠8) :
  g73 (Ze m.ws) m.st m.p (m.rs.map JQ) m.os (m.l.map Zf) m.tabs m.mem m.been (m.cr.map crc) k (o:Int) s.b.id.c s.b.id.op s.b.id.k (Zd s.b.q) s.b.d.g s.b.d.t s.b.d.h s.b.d.j s.b.d.i s.b.d.f s.b.d.m c.g c.r c.p c.c c.v c.o c.h c.f c.l c.n c.u c.w=Xa (if YJ m.l s.b.id cs=Xc then (7,mT m) else (0,mT { m with l:=Jm m.l (JE k c.p (ZeM s.b k o cs)),cr:=crN m.cr (ZeM s.b k o cs) })):=by
 have hl:m.l.length < 2^63:=by have:=h.len;omega
 have aa:m.l.length≤800:=by have:=h.len;omega
 have ab:=h.w4;have ac:=h.p1;have ad:=h.r3;have ae:=h.crl;have H:Kj m.l:=h.lok.few (by omega)
 have a:Ret (fun r=>r=if YJ m.l s.b.id cs=Xc then (7,mT m) else (0,mT { m with l:=Jm m.l (JE k c.p (ZeM s.b k o cs)),cr:=crN m.cr (ZeM s.b k o cs) })) (g73 (Ze m.ws) m.st m.p (m.rs.map JQ) m.os (m.l.map Zf) m.tabs m.mem m.been (m.cr.map crc) k (o:Int) s.b.id.c s.b.id.op s.b.id.k (Zd s.b.q) s.b.d.g s.b.d.t s.b.d.h s.b.d.j s.b.d.i s.b.d.f s.b.d.m c.g c.r c.p c.c c.v c.o c.h c.f c.l c.n c.u c.w):=by
  have f1:k < 32:=by omega
  have f9:c.n.toNat≤8:=by omega
  have J:c.p < 2^40:=by omega
  have Y:k.toNat < m.ws.length:=by omega
  have L:wOf m k=m.ws[k.toNat]:=by simp [wOf,Y]
  have h8:=(Z4 f.ok).2.2.1;rw [ZpX];refine YP U.1 Y ?_;rw [← L];refine Zb (s63 ..) (Za (fun M=>?_) fun M=>Zb (s66 m hl h.paths k c.p c.n W.2.2.1 J (by omega)) (Za (fun Z=>?_) fun Z=>Za (fun h3=>absurd (Ztm h3) u) fun h3=>?_))
  ·exfalso;simp only [CQ] at M;exact M hz
  ·have v:tkB m.l k c.p c.n=Xc:=Z;rw [X] at v;cases v
  have g8:cs.length≤8:=by rw [t];exact f9
  have w:=Zz2 m.l (by omega) s.b.id cs (by omega);rw [← g] at w;refine Zb w (Za (fun N=>Zc (by rw [P4 N])) fun N=>?_)
  have a:Ret (fun r=>r=if YJ m.l s.b.id cs=Xc then (7,mT m) else (0,mT { m with l:=Jm m.l (JE k c.p (ZeM s.b k o cs)),cr:=crN m.cr (ZeM s.b k o cs) })) (ZhS ZG (Ze m.ws) m.st m.p (m.rs.map JQ) m.os (m.l.map Zf) m.tabs m.mem m.been (m.cr.map crc) k (o:Int) s.b.id.c s.b.id.op s.b.id.k (Zd s.b.q) s.b.d.g s.b.d.t s.b.d.h s.b.d.j s.b.d.i s.b.d.f s.b.d.m c.g c.r c.p c.c c.v c.o c.h c.f c.l c.n c.u c.w (cs.map Kh) E0 0):=by
   refine Zo (F:=fun q (b:LL) z=>ZhS q (Ze m.ws) m.st m.p (m.rs.map JQ) m.os (m.l.map Zf) m.tabs m.mem m.been (m.cr.map crc) k (o:Int) s.b.id.c s.b.id.op s.b.id.k (Zd s.b.q) s.b.d.g s.b.d.t s.b.d.h s.b.d.j s.b.d.i s.b.d.f s.b.d.m c.g c.r c.p c.c c.v c.o c.h c.f c.l c.n c.u c.w (cs.map Kh) b z) cs.length (fun i b=>b=((ZeM s.b k o cs).take i).map Wd) (by omega) ?_ E0 rfl;rintro q i b E rfl y;refine Zi (Zjq ..) (Za (fun A=>?_) fun O=>?_)
   ·simp only [CQ,Xi] at A;have C:i < cs.length:=UM.1 A;refine Zi (KM C _) ?_;have D:=G _ (XC C);have Q:=Zb3 (m:=m) (q:=i) f.ok f.op f.pa f.rg d (by omega) ⟨U.1,f1⟩ (by omega) D.1 D.2 u;have R:=ZjX Q.1;refine Zb R (Zg (Zj (by rw [Xi,Xu,YE];simp;omega) (by decide)) ?_);rw [Jd E (by omega)];refine y C _ ?_;rw [TP (by rw [YE];exact C),Zey s.b k o cs C,Us];rfl
   ·simp only [CQ,Xi] at O;rw [Uc (by rw [YE];omega)];have S:tkB m.l k c.p (cs.length:Int)=Xb:=by rw [t,show ((c.n.toNat:Nat):Int)=c.n by omega];exact X
    have T:=ZwD m k c.p W.2.2.1 (by omega) (ZeM s.b k o cs) H (by rw [YE];omega) (fun n hn=>by
     obtain ⟨i,E,rfl⟩:=Ud.1 hn;rw [YE] at E;rw [Zey s.b k o cs E];simp [Ji];omega) (by omega) (WK h d s.b cs S)
    refine Zb T (Zc ?_);rw [P3 N]
  rw [← g] at a;exact a
 obtain ⟨r,e,rfl⟩:=a;exact e
def ZpP {m:Mc} {j o:Nat} {s:Zk} (c:EM m.ws.length m.p m.rs j s) (b:j < o) (d:o≤200) {k:Int} (e:0≤k∧k < 32) (a:Int) (f:s.b.q.length≠8):Za3 s.b ⟨k,(o:Int),0⟩ (Zxl s.b a):=by
 obtain ⟨n,_,g,_⟩:=Zig (m:=m) c b d e a f;exact g
def ZCi (m:Mc) {j o:Nat} (h:WfM m j) (a:j < o) (L:o≤100) (k:Int) (z:0≤k∧k < (m.ws.length:Int)) (c:Call) {s:Zk} (u:EM m.ws.length m.p m.rs j s) (v:0≤c.p∧c.p < m.p) (w:tkB m.l k c.p 1=Xb) (b:s.b.q.length≠8) :
  g74 (Ze m.ws) m.st m.p (m.rs.map JQ) m.os (m.l.map Zf) m.tabs m.mem m.been (m.cr.map crc) k (o:Int) s.b.id.c s.b.id.op s.b.id.k (Zd s.b.q) s.b.d.g s.b.d.t s.b.d.h s.b.d.j s.b.d.i s.b.d.f s.b.d.m c.g c.r c.p c.c c.v c.o c.h c.f c.l c.n c.u c.w=Xa (0,mT { m with l:=Va m.l ⟨k,c.p,Ze7 s.b k o c.v⟩,cr:=m.cr++[(k,(o:Int))] }):=by
 have A:m.l.length < 2^63:=by have:=h.len;omega
 have C:m.l.length≤800:=by have:=h.len;omega
 have D:=h.w4;have E:=h.p1;have G:=h.r3;have H:=h.crl;have g:Kj m.l:=h.lok.few (by omega);have M:=(Z4 u.ok).2.2.1
 have i:Ret (fun r=>r=((0:Int),mT { m with l:=Va m.l ⟨k,c.p,Ze7 s.b k o c.v⟩,cr:=m.cr++[(k,(o:Int))] })) (g74 (Ze m.ws) m.st m.p (m.rs.map JQ) m.os (m.l.map Zf) m.tabs m.mem m.been (m.cr.map crc) k (o:Int) s.b.id.c s.b.id.op s.b.id.k (Zd s.b.q) s.b.d.g s.b.d.t s.b.d.h s.b.d.j s.b.d.i s.b.d.f s.b.d.m c.g c.r c.p c.c c.v c.o c.h c.f c.l c.n c.u c.w):=by
  rw [Zqb];refine Zb (s66 m A h.paths k c.p 1 v.1 (by omega) (by decide)) (Za (fun x=>?_) fun x=>Za (fun y=>absurd (Ztm y) b) fun y=>?_)
  ·have d:tkB m.l k c.p 1=Xc:=x;rw [w] at d;cases d
  have q:=ZjX (ZpP u a (by omega) (k:=k) ⟨z.1,by omega⟩ c.v b);have t:=Yq h a w (n:=Ze7 s.b k o c.v) rfl;have f:=ZwD m k c.p v.1 (by omega) [Ze7 s.b k o c.v] g (by simp;omega) (fun n J=>by rw [XF.1 J];simp [Ze7,Ji];omega) (by omega) (by rw [VW];exact KR t);rw [VW] at f;exact Zb (Zxy ..) (Zb q (Zb f (Zc rfl)))
 obtain ⟨r,e,rfl⟩:=i;exact e
def ZBz (m:Mc) {j o:Nat} (h:WfM m j) (b:j < o) (O:o≤100) (k:Int) (D:0≤k∧k < (m.ws.length:Int)) (c:Call) {s:Zk} (y:EM m.ws.length m.p m.rs j s) (z:0≤c.p∧c.p < m.p) (a:¬ (s.b.d.g=3∨s.b.d.g=5∨s.b.d.g=6)) (g:P1 .and .i64 s.b.d.j 4≠0) (d:s.b.q.length≠8) (i:0≤c.c∧c.c < (m.ws.length:Int)) :
  g75 (Ze m.ws) m.st m.p (m.rs.map JQ) m.os (m.l.map Zf) m.tabs m.mem m.been (m.cr.map crc) k (o:Int) s.b.id.c s.b.id.op s.b.id.k (Zd s.b.q) s.b.d.g s.b.d.t s.b.d.h s.b.d.j s.b.d.i s.b.d.f s.b.d.m c.g c.r c.p c.c c.v c.o c.h c.f c.l c.n c.u c.w=Xa (if tkB m.l c.c c.p 1=Xc then (3,mT m) else (0,mT { m with l:=Va m.l ⟨c.c,c.p,Ze7 s.b k o c.v⟩,cr:=m.cr++[(k,(o:Int))] })):=by
 have E:m.l.length < 2^63:=by have:=h.len;omega
 have G:m.l.length≤800:=by have:=h.len;omega
 have H:=h.w4;have J:=h.p1;have L:=h.r3;have M:=h.crl;have t:Kj m.l:=h.lok.few (by omega);have Q:=(Z4 y.ok).2.2.1
 have u:Ret (fun r=>r=if tkB m.l c.c c.p 1=Xc then (3,mT m) else (0,mT { m with l:=Va m.l ⟨c.c,c.p,Ze7 s.b k o c.v⟩,cr:=m.cr++[(k,(o:Int))] })) (g75 (Ze m.ws) m.st m.p (m.rs.map JQ) m.os (m.l.map Zf) m.tabs m.mem m.been (m.cr.map crc) k (o:Int) s.b.id.c s.b.id.op s.b.id.k (Zd s.b.q) s.b.d.g s.b.d.t s.b.d.h s.b.d.j s.b.d.i s.b.d.f s.b.d.m c.g c.r c.p c.c c.v c.o c.h c.f c.l c.n c.u c.w):=by
  rw [ZpN];refine Za (fun q=>?_) fun R=>Za (fun q=>?_) fun S=>Za (fun q=>?_) fun T=>Za (fun q=>?_) fun U=>Za (fun A=>absurd (Ztm A) d) fun A=>Zb (s33 m h.mem c.c) (Za (fun q=>absurd i (Kv q)) fun W=>Zb (s66 m E h.paths c.c c.p 1 z.1 (by omega) (by decide)) (Za (fun v=>Zc (by rw [P4 v])) fun v=>?_))
  ·exact absurd (.inl (Ju q)) a
  ·exact absurd (.inr (.inl (Ju q))) a
  ·exact absurd (.inr (.inr (Ju q))) a
  ·exact absurd (Ju q) g
  have C:tkB m.l c.c c.p 1=Xb:=UL.2 v;have w:=ZjX (ZpP y b (by omega) (k:=k) ⟨D.1,by omega⟩ c.v d);have x:=Yq h b C (n:=Ze7 s.b k o c.v) rfl;have f:=ZwD m c.c c.p z.1 (by omega) [Ze7 s.b k o c.v] t (by simp;omega) (fun n N=>by rw [XF.1 N];simp [Ze7,Ji];omega) (by omega) (by rw [VW];exact KR x);rw [VW] at f;refine Zb (Zxy ..) (Zb w (Zb f (Zc ?_)));rw [C,P3 (by decide)];rfl
 obtain ⟨r,e,rfl⟩:=u;exact e
def Zoh (m:Mc) (k:Int) (o:Nat) (c:Call) (e:Int) (a:List Zk):Prop:=
 (c.g=1∧((YJ m.l ⟨0,0,0⟩ [Zck c]=Xc∧e=7∧a=m.l)∨(YJ m.l ⟨0,0,0⟩ [Zck c]=Xb∧e=0∧a=Va m.l ⟨k,c.p,ZoZ k o c⟩)))∨
 (∃ s,atE m.l k c.r=Xa s∧
  ((c.g=2∧∃ cs,Yl s.b.d c.o c.h c.f (wOf m k) c.l c.n=cs.map Kh∧cs.length=c.n.toNat∧(∀ x∈cs,J0 x=Xc∧inB s.b.d.t s.b.d.h x.t x.h=Xc)∧
    ((YJ m.l s.b.id cs=Xc∧e=7∧a=m.l)∨(YJ m.l s.b.id cs=Xb∧e=0∧a=Jm m.l (JE k c.p (ZeM s.b k o cs)))))∨
   (c.g=3∧e=0∧a=Va m.l ⟨k,c.p,Ze7 s.b k o c.v⟩)∨
   (c.g=4∧((tkB m.l c.c c.p 1=Xc∧e=3∧a=m.l)∨(tkB m.l c.c c.p 1=Xb∧e=0∧a=Va m.l ⟨c.c,c.p,Ze7 s.b k o c.v⟩)))∨
   (c.g=5∧e=0∧a=m.l.filter fun x=>!decide (x.b.id=s.b.id))∨
   (c.g=6∧e=0∧a=m.l.filter fun x=>!x.b.q.contains s.b.id)))
set_option maxHeartbeats 4000000 in
def ZBr (m:Mc) {j o:Nat} (h:WfM m j) (u:j < o) (M:o≤100) (k:Int) (N:0≤k∧k < (m.ws.length:Int)) (c:Call) (X:m.l.Pairwise fun a b=>lte a b=Xc) {s:Zk} (L:wfD m k c) (aa:2≤c.g∧c.g≤6) (d:atE m.l k c.r=Xa s)
  (p2:c.g=2→JN s.b.d c.o c.h c.f (wOf m k) c.l c.n=0∧tkB m.l k c.p c.n=Xb∧s.b.q.length≠8)
  (p3:c.g=3→tkB m.l k c.p 1=Xb∧s.b.q.length≠8)
  (p4:c.g=4→¬ (s.b.d.g=3∨s.b.d.g=5∨s.b.d.g=6)∧P1 .and .i64 s.b.d.j 4≠0∧s.b.q.length≠8∧0≤c.c∧c.c < (m.ws.length:Int)) :
  Ret (fun r=>∃ e m',r=(e,mT m')∧Zoh m k o c e m'.l) (g38 (Ze m.ws) m.st m.p (m.rs.map JQ) m.os (m.l.map Zf) m.tabs m.mem m.been (m.cr.map crc) k (o:Int) c.g c.r c.p c.c c.v c.o c.h c.f c.l c.n c.u c.w):=by
 have hl:m.l.length < 2^63:=by have:=h.len;omega
 have ab:m.l.length≤800:=by have:=h.len;omega
 have ac:=h.w4;have ad:=h.p1;have ae:=h.r3;have af:=h.crl;have A:Kj m.l:=h.lok.few (by omega);have Y:j≤800:=by omega
 have Z:m.tabs.length≤100:=by rw [h.tl];omega
 have C:m.l.length≤900:=by omega
 have D:1≤c.n→c.n≤8→P1 .sub .i64 m.p c.n=m.p-c.n:=fun h1 h2=>by have:=h.p0;exact Zdl (by omega) (by omega)
 have E:=L.1;have n:=UE d;have O:=h.lok.ent s n;have f:=s69 m hl h.paths k c.r;rw [d] at f;rw [ZpR];by_cases hk2:c.g=2
 ·obtain ⟨Q,d2,d3,d4⟩:=L.2.1 hk2;obtain ⟨hz,R,g⟩:=p2 hk2;obtain ⟨cs,v,w,y⟩:=Zhi hz;have S:=ZBw m h u M k N c O ⟨Q,d2,d3,d4⟩ hz cs v w y R g;refine Zb (s65 m c.r) (Za (fun q=>absurd E (Kv q)) fun _=>Za (fun _=>Za (fun q=>by exfalso;simp only [CQ] at q;omega) fun _=>Za (fun q=>by exfalso;simp only [CQ] at q;omega) fun _=>Za (fun q=>by exfalso;simp only [CQ] at q;omega) fun _=>Za (fun q=>by exfalso;simp only [CQ] at q;rw [D (by omega) (by omega)] at q;omega) fun _=>Zb f (Za (fun q=>by cases q) fun _=>Za (fun _=>Zb S (Zc ?_)) (fun q=>absurd (YQ hk2) q))) (fun q=>absurd (YQ hk2) q))
  cases hcf:YJ m.l s.b.id cs with
  | true => exact ⟨7, m, by rw [P4 rfl], .inr ⟨s, d, .inl ⟨hk2, cs, v, w, y, .inl ⟨hcf, rfl, rfl⟩⟩⟩⟩
  | false => exact ⟨0, _, by rw [P3 (by decide)], .inr ⟨s, d, .inl ⟨hk2, cs, v, w, y, .inr ⟨hcf, rfl, rfl⟩⟩⟩⟩
 by_cases hk3:c.g=3
 ·obtain ⟨G,Q,d2⟩:=L.2.2.1 hk3;obtain ⟨R,g⟩:=p3 hk3;have T:=ZCi m h u M k N c O G R g;refine Zb (s65 m c.r) (Za (fun q=>absurd E (Kv q)) fun _=>Za (fun q=>by exfalso;simp only [CQ] at q;omega) fun _=>Za (fun _=>Zb (s65 m c.p) (Za (fun q=>absurd G (Kv q)) fun _=>Za (fun q=>by exfalso;simp only [CQ] at q;omega) fun _=>Za (fun q=>by exfalso;simp only [CQ] at q;omega) fun _=>Zb f (Za (fun q=>by cases q) fun _=>Za (fun q=>by exfalso;simp only [CQ] at q;omega) fun _=>Za (fun _=>Zb T (Zc ?_)) (fun q=>absurd (YQ hk3) q)))) (fun q=>absurd (YQ hk3) q));exact ⟨0,_,rfl,.inr ⟨s,d,.inr (.inl ⟨hk3,rfl,rfl⟩)⟩⟩
 by_cases hk4:c.g=4
 ·obtain ⟨G,⟨Q,d2⟩,⟨d3,d4⟩,d5⟩:=L.2.2.2 hk4;obtain ⟨q1,q2,g,q4,q5⟩:=p4 hk4;have U:=ZBz m h u M k N c O G q1 q2 g ⟨q4,q5⟩;refine Zb (s65 m c.r) (Za (fun q=>absurd E (Kv q)) fun _=>Za (fun q=>by exfalso;simp only [CQ] at q;omega) fun _=>Za (fun q=>by exfalso;simp only [CQ] at q;omega) fun _=>Za (fun _=>Zb (s65 m c.p) (Za (fun q=>absurd G (Kv q)) fun _=>Za (fun q=>by exfalso;simp only [CQ] at q;omega) fun _=>Za (fun q=>by exfalso;simp only [CQ] at q;omega) fun _=>Za (fun q=>by exfalso;simp only [CQ] at q;omega) fun _=>Za (fun q=>by exfalso;simp only [CQ] at q;omega) fun _=>Za (fun q=>by exfalso;simp only [CQ] at q;omega) fun _=>Zb f (Za (fun q=>by cases q) fun _=>Za (fun q=>by exfalso;simp only [CQ] at q;omega) fun _=>Za (fun q=>by exfalso;simp only [CQ] at q;omega) fun _=>Za (fun _=>Zb U (Zc ?_)) (fun q=>absurd (YQ hk4) q)))) (fun q=>absurd (YQ hk4) q))
  cases hcf:tkB m.l c.c c.p 1 with
  | true => exact ⟨3, m, by rw [P4 rfl], .inr ⟨s, d, .inr (.inr (.inl ⟨hk4, .inl ⟨hcf, rfl, rfl⟩⟩))⟩⟩
  | false => exact ⟨0, _, by rw [P3 (by decide)], .inr ⟨s, d, .inr (.inr (.inl ⟨hk4, .inr ⟨hcf, rfl, rfl⟩⟩))⟩⟩
 obtain ⟨q,hq,rfl⟩:=Ud.1 n;by_cases hk5:c.g=5
 ·have H:=ZCd m.l A X q hq;rw [YS X q hq] at H;have i:(m.l.filter fun x=>!decide (x.b.id=m.l[q].b.id)).Sublist m.l:=Tz;refine Zb (s65 m c.r) (Za (fun q=>absurd E (Kv q)) fun _=>Za (fun q=>by exfalso;simp only [CQ] at q;omega) fun _=>Za (fun q=>by exfalso;simp only [CQ] at q;omega) fun _=>Za (fun q=>by exfalso;simp only [CQ] at q;omega) fun _=>Zb f (Za (fun q=>by cases q) fun _=>Za (fun q=>by exfalso;simp only [CQ] at q;omega) fun _=>Za (fun q=>by exfalso;simp only [CQ] at q;omega) fun _=>Za (fun q=>by exfalso;simp only [CQ] at q;omega) fun _=>Za (fun _=>Zb H (?_)) (fun q=>absurd (YQ hk5) q)));refine Zh (s78 { m with l:=m.l.filter fun x=>!decide (x.b.id=m.l[q].b.id) } (j:=j) Y h.tb (XN i.length_le C) Z) fun r2 z=>?_;obtain ⟨t,rfl,t1,t2⟩:=z;exact Zc ⟨0,{ m with l:=m.l.filter fun x=>!decide (x.b.id=m.l[q].b.id),tabs:=t },rfl,.inr ⟨m.l[q],d,.inr (.inr (.inr (.inl ⟨hk5,rfl,rfl⟩)))⟩⟩
 ·have J:c.g=6:=by omega
  have W:=ZAL m.l A (by omega) m.l[q].b.id;have i:(m.l.filter fun x=>!x.b.q.contains m.l[q].b.id).Sublist m.l:=Tz;refine Zb (s65 m c.r) (Za (fun q=>absurd E (Kv q)) fun _=>Za (fun q=>by exfalso;simp only [CQ] at q;omega) fun _=>Za (fun q=>by exfalso;simp only [CQ] at q;omega) fun _=>Za (fun q=>by exfalso;simp only [CQ] at q;omega) fun _=>Zb f (Za (fun q=>by cases q) fun _=>Za (fun q=>by exfalso;simp only [CQ] at q;omega) fun _=>Za (fun q=>by exfalso;simp only [CQ] at q;omega) fun _=>Za (fun q=>by exfalso;simp only [CQ] at q;omega) fun _=>Za (fun q=>by exfalso;simp only [CQ] at q;omega) fun _=>Zb W (?_)));refine Zh (s78 { m with l:=m.l.filter fun x=>!x.b.q.contains m.l[q].b.id } (j:=j) Y h.tb (XN i.length_le C) Z) fun r2 z=>?_;obtain ⟨t,rfl,t1,t2⟩:=z;exact Zc ⟨0,{ m with l:=m.l.filter fun x=>!x.b.q.contains m.l[q].b.id,tabs:=t },rfl,.inr ⟨m.l[q],d,.inr (.inr (.inr (.inr ⟨J,rfl,rfl⟩)))⟩⟩
set_option maxHeartbeats 4000000 in
def ZA9 (m:Mc) {j o:Nat} (h:WfM m j) (f:j < o) (D:o≤100) (k:Int) (t:0≤k∧k < (m.ws.length:Int)) (c:Call) (H:m.l.Pairwise fun a b=>lte a b=Xc) (u:m.rs = [⟨262144,16,Xb⟩]) {J:Req} (E:POk m k (o:Int) c J) :
  Ret (fun r=>∃ e L v M N O Q b R m',r=(e,L,v,M,N,O,Q,b,R,mT m')∧Zoh m k o c e m'.l) (g11 (Ze m.ws) m.st m.p (m.rs.map JQ) m.os (m.l.map Zf) m.tabs m.mem m.been (m.cr.map crc) k (o:Int) c.g c.r c.p c.c c.v c.o c.h c.f c.l c.n c.u c.w):=by
 have hl:m.l.length < 2^63:=by have:=h.len;omega
 have S:m.l.length≤800:=by have:=h.len;omega
 have T:=h.w4;have U:=h.p1;have W:=h.r3;have d:=h.crl;have X:Kj m.l:=h.lok.few (by omega);have d:m.cr.length < 1000:=by have:=h.crl;omega
 have w:¬ P0 .lss (o:Int) 1=Xc:=by simp only [CQ];omega
 have x:¬ P0 .gtr (o:Int) 1073741824=Xc:=by simp only [CQ];omega
 have Y:1≤c.g∧c.g≤6:=by
  rcases E with ⟨h1,_⟩ | ⟨s,_,h1,_⟩ <;> omega
 rw [ZpW,s33 m h.mem k,Xj];refine Za (fun q=>absurd t (Kv q)) fun _=>Za (fun q=>absurd q w) fun _=>Za (fun q=>absurd q x) fun _=>Za (fun q=>?_) fun q1=>Za (fun q=>?_) fun q2=>?_
 ·exfalso;simp only [CQ] at q;omega
 ·exfalso;simp only [CQ] at q;omega
 refine Zo (F:=fun q (_:Unit) z=>ZkU q (Ze m.ws) m.st m.p (m.rs.map JQ) m.os (m.l.map Zf) m.tabs m.mem m.been (m.cr.map crc) k (o:Int) c.g c.r c.p c.c c.v c.o c.h c.f c.l c.n c.u c.w 0 0 0 0 0 0 0 Xb 0 z) m.cr.length (fun _ _=>True) d ?_ () trivial;intro q i s Z _ g;refine Zi (Zjn ..) (Za (fun n=>?_) fun aa=>?_)
 ·simp only [CQ,Xi] at n;have y:i < m.cr.length:=UM.1 n;refine Zi (ZkM y _) (Za (fun G=>?_) fun _=>?_)
  ·have ab:=h.cro _ (XC y);rw [Xk,Xk] at G;have:=Ju G.2.1;omega
  ·rw [Jd Z d];exact g y () trivial
 ·rcases E with ⟨hk1,hb,C,hg,ht,_⟩ | ⟨s,hw,hk2,hat,_,p2,p3,p4⟩
  ·have A:=ZBI m h f D k t c u hb C hg ht;refine Za (fun _=>Zb A (Zc ?_)) fun q=>absurd (YQ hk1) q
   cases hcf:YJ m.l ⟨0,0,0⟩ [Zck c] with
   | true => exact ⟨7, _, _, _, _, _, _, _, _, m, by rw [P4 rfl], .inl ⟨hk1, .inl ⟨hcf, rfl, rfl⟩⟩⟩
   | false => exact ⟨0, _, _, _, _, _, _, _, _, { m with l := Va m.l ⟨k, c.p, ZoZ k o c⟩, cr := m.cr ++ [(k, (o : Int))] }, by rw [P3 (by decide)], .inl ⟨hk1, .inr ⟨hcf, rfl, rfl⟩⟩⟩
  ·refine Za (fun q=>?_) fun _=>Za (fun q=>?_) fun _=>Za (fun q=>?_) fun _=>Za (fun q=>?_) fun _=>Za (fun q=>?_) fun _=>Zh (ZBr m h f D k t c H hw hk2 hat p2 p3 p4) fun r C=>?_
   ·exfalso;simp only [CQ] at q;omega
   ·exfalso;simp only [CQ] at q;omega
   ·exfalso;simp only [CQ] at q;omega
   ·exfalso;simp only [CQ] at q;omega
   ·exfalso;simp only [CQ] at q;omega
   ·obtain ⟨e,m',rfl,v⟩:=C;exact Zc ⟨e,_,_,_,_,_,_,_,_,m',rfl,v⟩
def ZrE {c:Type} {P Q:c→Prop} {o:Option c} (d:Ret P o) (f:Ret Q o):Ret (fun r=>P r∧Q r) o:=by
 obtain ⟨a,rfl,g⟩:=d;obtain ⟨b,e,h⟩:=f
 cases e
 exact ⟨_,rfl,g,h⟩
def ZsA {a b:Id} (h:idc a=idc b):a=b:=by
 obtain ⟨c,d,e⟩:=a;obtain ⟨f,g,i⟩:=b;simp only [idc,List.cons.injEq,AV.val.injEq,Value.int.injEq,true_and,and_true] at h;simp [h]
def ZhT {c:Type} {f:c→List AV} (d:∀ a b,f a=f b→a=b):∀ {l m:List c},l.map f=m.map f→l=m
 | [], [], _ => rfl
 | a :: l, b :: m, h => by
  simp only [List.map_cons,List.cons.injEq] at h;rw [d a b h.1,ZhT d h.2]
 | [], _ :: _, h => by simp at h
 | _ :: _, [], h => by simp at h
def Zj6 (a b:Zk) (h:Zf a=Zf b):a=b:=by
 obtain ⟨e,f,⟨⟨g,i,j⟩,c,⟨k,l,m,n,o,p,q⟩⟩⟩:=a;obtain ⟨r,s,⟨⟨t,u,v⟩,d,⟨w,d2,x,d4,y,z,A⟩⟩⟩:=b;simp [Zf,Wd,Kh,idc] at h;have C:c=d:=ZhT (fun _ _=>ZsA) (show c.map idc=d.map idc by simp_all [Zd]);simp_all
def ZBD {m m':Mc} (h:mT m=mT m'):m.l=m'.l:=by
 simp only [mT,Xw] at h;exact ZhT Zj6 h.2.2.2.2.2.1
def ZCg {b r w l k s:Int} {d:Bool} {lv wd bits c off obj cnt:Int} (x:0≤b) (g:0≤off) (e:0≤c) (y:cnt≤8) (z:b+off+8*c < 2^62):∀ (j i a:Nat),cnt=i+j→j < a→
  Jy a obj bits lv wd off k b s r w l d c (JT obj (b+off) c bits r wd lv d i) cnt i=Xa (JT obj (b+off) c bits r wd lv d cnt.toNat,0):=by
 intro j;have n:(2:Int)^62=4611686018427387904:=by decide
 induction j with
 | zero =>
  intro i a h o;obtain ⟨f,rfl⟩:∃ f,a=f+1:=⟨a-1,by omega⟩;rw [ZfK,P3 (by simp only [ZV,ZW,ZS,ZR,ZT,ZP,ZY,ZU,ZQ,ZX,Z0,ZZ,XT,Ub,XJ,Ue,Xk,XX,P5,decide_eq_false_iff_not,XQ,Ug,Xj,Xf,false_iff,true_iff,iff_false,iff_true];omega)];have:cnt.toNat=i:=by omega
  rw [this]
 | succ j ih =>
  intro i a h o;obtain ⟨f,rfl⟩:∃ f,a=f+1:=⟨a-1,by omega⟩;have p:(i:Int)*c≤8*c:=Int.mul_le_mul_of_nonneg_right (by omega) e;have m:0≤(i:Int)*c:=Int.mul_nonneg (by omega) e;have q:P1 .add .i64 b off=b+off:=JP (by omega) (by omega);have t:P1 .mul .i64 i c=i*c:=ZrN (by omega) (by omega);have u:P1 .add .i64 (b+off) (i*c)=b+off+i*c:=JP (by omega) (by omega);have v:P1 .add .i64 i 1=((i+1:Nat):Int):=by rw [JP (by omega) (by omega)];omega
  rw [ZfK,P4 (by simp only [ZV,ZW,ZS,ZR,ZT,ZP,ZY,ZU,ZQ,ZX,Z0,ZZ,XT,Ub,XJ,Ue,Xk,XX,P5,decide_eq_false_iff_not,XQ,Ug,Xj,Xf,false_iff,true_iff,iff_false,iff_true];omega),Zu (ZaI (by rw [VB];simp;omega)),q,t,u,v];have:=ih (i+1) f (by omega) (by omega);rw [W1] at this;exact this
set_option maxHeartbeats 4000000 in
def ZBf (k b s r w l:Int) (d:Bool) (obj bits a c off cnt:Int):ZwY k b s r w l d obj bits a c off cnt =
  Xa (Yl ⟨k,b,s,r,w,l,d⟩ obj bits a c off cnt,JN ⟨k,b,s,r,w,l,d⟩ obj bits a c off cnt):=by
 rw [Zrb];simp only [Zy6,ZAn,ZAE,Xj];by_cases hh:J0 ⟨k,b,s,r,w,l,d⟩=Xc∧k=1∧P1 .and .i64 r 2≠0∧KP obj bits=Xc∧(obj=3→W2 c a=Xc)∧1≤cnt∧cnt≤8∧0≤off
 ·obtain ⟨g,rfl,E,i,G,H,q,t⟩:=hh;obtain ⟨u,v,j,y,m,J,L,M,N,n,o,O,Q,R,S,T⟩:=ZiC g i H q t;have z:(Zl ((0:Int)≤bits):Option (List (List AV)×Int)→_)=fun x=>x:=ZaT L;have A:(Zl ((2:Int)^bits.toNat≠0):Option (List (List AV)×Int)→_)=fun x=>x:=ZaT J;have C:(Zl ((0:Int)≤s):Option (List (List AV)×Int)→_)=fun x=>x:=ZaT M;simp only at j m
  have f:∀ lv wd,off+cnt*2^bits.toNat≤2^s.toNat→Jy ZG obj bits lv wd off 1 b s r w l d (2^bits.toNat) [] cnt 0=Xa (JT obj (b+off) (2^bits.toNat) bits r wd lv d cnt.toNat,0):=by
   intro lv wd U
   have:=ZCg (k:=1) (s:=s) (r:=r) (w:=w) (l:=l) (d:=d) (lv:=lv) (wd:=wd) (bits:=bits) (obj:=obj) (cnt:=cnt) N t (Int.le_of_lt o) q (show b+off+8*2^bits.toNat < 2^62 by
    have W:(2:Int)^62=4611686018427387904:=by decide
    simp only at n;omega) cnt.toNat 0 ZG (by omega) (VN (by omega))
   exact this
  have e:JN ⟨1,b,s,r,w,l,d⟩ obj bits a c off cnt=if d=Xc∧obj≠1∧obj≠2 then 5 else if off % 2^bits.toNat≠0∨2^s.toNat-cnt*2^bits.toNat < off∨(obj=1∧s≤bits) then 6 else 0:=by
   rw [JN,P3 (by simp [g]),P3 E,P3 (by
    rintro (h | ⟨h,D⟩ | h | h | h)
    ·rw [i] at h;cases h
    ·rw [G h] at D;cases D
    ·omega
    ·omega
    ·omega)]
  have p:P0 .neq (1:Int) 1=Xb:=rfl;simp only [u,v,j,y,m,z,A,C,g,i,p,Bool.not_true,XQ,if_false];clear u v j y m z A C;by_cases e5:d=Xc∧obj≠1∧obj≠2
  ·rw [P4 e5] at e;obtain ⟨Y,Z,e2⟩:=e5
   repeat' (with_reducible refine ZE (fun _=>?_) (fun _=>?_))
   all_goals first
    | exact Za1 (by decide) e
    | (exfalso; simp only [ZV, ZW, ZS, ZR, ZT, ZP, ZY, ZU, ZQ, ZX, Z0, ZZ, XT, Ub, XJ, Ue, Xk, XX, P5, decide_eq_false_iff_not, XQ, Ug, Xj, Xf, false_iff, true_iff, iff_false, iff_true] at *; first | omega | grind)
  ·rw [P3 e5] at e;by_cases e6:off % 2^bits.toNat≠0∨2^s.toNat-cnt*2^bits.toNat < off∨(obj=1∧s≤bits)
   ·rw [P4 e6] at e
    repeat' (with_reducible refine ZE (fun _=>?_) (fun _=>?_))
    all_goals first
     | exact Za1 (by decide) e
     | (exfalso; simp only [ZV, ZW, ZS, ZR, ZT, ZP, ZY, ZU, ZQ, ZX, Z0, ZZ, XT, Ub, XJ, Ue, Xk, XX, P5, decide_eq_false_iff_not, XQ, Ug, Xj, Xf, false_iff, true_iff, iff_false, iff_true] at *; first | omega | grind)
   ·rw [P3 e6] at e;have X:∀ lv wd,Jy ZG obj bits lv wd off 1 b s r w l d (2^bits.toNat) [] cnt 0=Xa (JT obj (b+off) (2^bits.toNat) bits r wd lv d cnt.toNat,0):=fun lv wd=>f lv wd (by omega);simp only [X,Yl,e,if_true]
    repeat' (with_reducible refine ZE (fun _=>?_) (fun _=>?_))
    all_goals first
     | (simp only [ZV, ZW, ZS, ZR, ZT, ZP, ZY, ZU, ZQ, ZX, Z0, ZZ, XT, Ub, XJ, Ue, Xk, XX, P5, decide_eq_false_iff_not, XQ, Ug, Xj, Xf, false_iff, true_iff, iff_false, iff_true] at *; rw [P4 (by omega), P4 (by omega)]; done)
     | (simp only [ZV, ZW, ZS, ZR, ZT, ZP, ZY, ZU, ZQ, ZX, Z0, ZZ, XT, Ub, XJ, Ue, Xk, XX, P5, decide_eq_false_iff_not, XQ, Ug, Xj, Xf, false_iff, true_iff, iff_false, iff_true] at *; rw [P3 (by omega), P3 (by omega)]; done)
     | (exfalso; simp only [ZV, ZW, ZS, ZR, ZT, ZP, ZY, ZU, ZQ, ZX, Z0, ZZ, XT, Ub, XJ, Ue, Xk, XX, P5, decide_eq_false_iff_not, XQ, Ug, Xj, Xf, false_iff, true_iff, iff_false, iff_true] at *; first | omega | grind)
 ·repeat' (with_reducible refine ZE (fun _=>?_) (fun _=>?_))
  all_goals first
   | exact Za1 (by decide) (by simp only [ZV, ZW, ZS, ZR, ZT, ZP, ZY, ZU, ZQ, ZX, Z0, ZZ, XT, Ub, XJ, Ue, Xk, XX, P5, decide_eq_false_iff_not, XQ, Ug, Xj, Xf, false_iff, true_iff, iff_false, iff_true] at *; simp only [JN]; grind)
   | (exfalso; simp only [ZV, ZW, ZS, ZR, ZT, ZP, ZY, ZU, ZQ, ZX, Z0, ZZ, XT, Ub, XJ, Ue, Xk, XX, P5, decide_eq_false_iff_not, XQ, Ug, Xj, Xf, false_iff, true_iff, iff_false, iff_true] at *; grind)
def ZBA (l:List Zk) (n:l.length < 1000) (c s:Int) (h:∃ e∈l,e.c=c∧e.r=s):Ret (fun r=>r.2=Xc) (g56 (l.map Zf) c s):=by
 rw [ZqA,Xi];refine Zo (F:=fun k (_:Unit) z=>ZgD k c s (l.map Zf) (l.length:Int) z) l.length (fun i _=>∀ j (g:j < l.length),j < i→¬ (l[j].c=c∧l[j].r=s)) n (fun k i _ t o a=>?_) () (fun j _ h=>absurd h (UA j));refine Zi (Zjm ..) (Za (fun h=>?_) fun u=>?_)
 ·simp only [CQ] at h;have b:i < l.length:=by omega
  have d:¬ (l[i].c=c∧l[i].r=s)→Ret (fun r=>r.2=Xc) (ZgD k c s (l.map Zf) (l.length:Int) (P1 .add .i64 (i:Int) 1)):=by
   intro v;rw [Jd t n];refine a b () fun j g w=>?_;by_cases m:j=i
   ·subst m;exact v
   ·exact o j g (by omega)
  refine Zi (ZO b _) (Za (fun p=>Za (fun q=>Zc rfl) fun q=>d ?_) fun p=>d ?_)
  ·exact fun f=>q (YQ f.2)
  ·exact fun f=>p (YQ f.1)
 ·simp only [CQ] at u;obtain ⟨e,m,f⟩:=h;obtain ⟨j,g,rfl⟩:=Ud.1 m;exact absurd f (o j g (by omega))
def ZBi (l:List Zk) (b:l.length < 1000) (x:Zk) (c:∀ e∈l,e.b.id≠x.b.id) (h:∃ e∈l,e.c=x.c∧e.r=x.r):g20 (l.map Zf) x.c x.r x.b.id.c x.b.id.op x.b.id.k (Zd x.b.q) x.b.d.g x.b.d.t x.b.d.h x.b.d.j x.b.d.i x.b.d.f x.b.d.m=Xa (E0,Xb):=by
 have a:Ret (fun y=>y=(E0,Xb)) (g20 (l.map Zf) x.c x.r x.b.id.c x.b.id.op x.b.id.k (Zd x.b.q) x.b.d.g x.b.d.t x.b.d.h x.b.d.j x.b.d.i x.b.d.f x.b.d.m):=by
  rw [Zqa];refine Zb (ZAi l b x.b.id c) (Zh (ZBA l b x.c x.r h) fun r d=>Za (fun h=>by cases h) fun _=>Za (fun _=>Zc rfl) fun h=>absurd d h)
 obtain ⟨y,e,rfl⟩:=a;exact e
def Zym (f:List Zk) (m:f.length < 900) (a:LL) (r:Req) (p:Int) (w pa b:LL) (x:Zk) (g:∀ e∈f,e.b.id≠x.b.id) (h:∃ e∈f,e.c=x.c∧e.r=x.r):ZpL 0 262144 16 Xb (f.map Zf) a r.id.c r.id.op r.id.k r.a.g r.a.r r.a.p r.a.c r.a.v r.a.o r.a.h r.a.f r.a.l r.a.n r.a.u r.a.w r.s r.i r.e.id.c r.e.id.op r.e.id.k (Zd r.e.q) r.e.d.g r.e.d.t r.e.d.h r.e.d.j r.e.d.i r.e.d.f r.e.d.m p w pa b ([x].map Zf)=Xa (Xb,oT (f.map Zf) a r p w pa b):=by
 have e:=ZBi f (by omega) x g h
 have c:Ret (fun y=>y=(Xb,oT (f.map Zf) a r p w pa b)) (ZpL 0 262144 16 Xb (f.map Zf) a r.id.c r.id.op r.id.k r.a.g r.a.r r.a.p r.a.c r.a.v r.a.o r.a.h r.a.f r.a.l r.a.n r.a.u r.a.w r.s r.i r.e.id.c r.e.id.op r.e.id.k (Zd r.e.q) r.e.d.g r.e.d.t r.e.d.h r.e.d.j r.e.d.i r.e.d.f r.e.d.m p w pa b ([x].map Zf)):=by
  rw [ZhA];refine Zo (F:=fun k (s:LL) i=>Zd8 k 0 262144 16 Xb (f.map Zf) a r.id.c r.id.op r.id.k r.a.g r.a.r r.a.p r.a.c r.a.v r.a.o r.a.h r.a.f r.a.l r.a.n r.a.u r.a.w r.s r.i r.e.id.c r.e.id.op r.e.id.k (Zd r.e.q) r.e.d.g r.e.d.t r.e.d.h r.e.d.j r.e.d.i r.e.d.f r.e.d.m p w pa b s ([x].map Zf) (Xg ([x].map Zf):Int) i) 1 (fun i s=>i=0∧s=(f.map Zf)) (by omega) (fun k i s n j d=>?_) (f.map Zf) ⟨rfl,rfl⟩;obtain ⟨rfl,rfl⟩:=j;refine Zi (Zcw ..) (Za (fun h=>?_) fun h=>?_)
  ·exact Zi (ZO (l:=[x]) (i:=0) (by simp) _) (Zb e (Za (fun _=>Zc rfl) fun h=>absurd rfl h))
  ·exfalso;simp only [CQ,Xi,TO] at h;omega
 obtain ⟨y,e,rfl⟩:=c;exact e
def ZzA (f:List Zk) (q:Kj f) (b:LL) (r:Req) (p:Int) (w pa c:LL) (xs:List Zk) (z:f.length+xs.length < 900) (o:∀ x∈xs,x.b.q.length≤20) (t:Kw f xs):ZpL 0 262144 16 Xb (f.map Zf) b r.id.c r.id.op r.id.k r.a.g r.a.r r.a.p r.a.c r.a.v r.a.o r.a.h r.a.f r.a.l r.a.n r.a.u r.a.w r.s r.i r.e.id.c r.e.id.op r.e.id.k (Zd r.e.q) r.e.d.g r.e.d.t r.e.d.h r.e.d.j r.e.d.i r.e.d.f r.e.d.m p w pa c (xs.map Zf)=Xa (Xc,oT ((Jm f xs).map Zf) b r p w pa c):=by
 have m:Ret (fun y=>y=(Xc,oT ((Jm f xs).map Zf) b r p w pa c)) (ZpL 0 262144 16 Xb (f.map Zf) b r.id.c r.id.op r.id.k r.a.g r.a.r r.a.p r.a.c r.a.v r.a.o r.a.h r.a.f r.a.l r.a.n r.a.u r.a.w r.s r.i r.e.id.c r.e.id.op r.e.id.k (Zd r.e.q) r.e.d.g r.e.d.t r.e.d.h r.e.d.j r.e.d.i r.e.d.f r.e.d.m p w pa c (xs.map Zf)):=by
  rw [ZhA,Xi];refine Zo (F:=fun k (s:LL) i=>Zd8 k 0 262144 16 Xb (f.map Zf) b r.id.c r.id.op r.id.k r.a.g r.a.r r.a.p r.a.c r.a.v r.a.o r.a.h r.a.f r.a.l r.a.n r.a.u r.a.w r.s r.i r.e.id.c r.e.id.op r.e.id.k (Zd r.e.q) r.e.d.g r.e.d.t r.e.d.h r.e.d.j r.e.d.i r.e.d.f r.e.d.m p w pa c s (xs.map Zf) (xs.length:Int) i) xs.length (fun i s=>s=(Jm f (xs.take i)).map Zf) (by omega) (fun k i s u v d=>?_) (f.map Zf) rfl;subst v;refine Zi (Zcw ..) (Za (fun h=>?_) fun h=>Zc ?_)
  ·simp only [CQ] at h;have a:i < xs.length:=by omega
   have g:=t.drop i;rw [Tj a] at g;have j:=g.1 _ (UX ..);have l:Kj (Jm f (xs.take i)):=Zeg q (by rw [Xu];omega) fun x n=>o x (XL n);have e:=s20 (Jm f (xs.take i)) l (by rw [Za6,Xu];omega) xs[i] (o _ (XC a)) j.1 j.2;refine Zi (ZO a _) (Zb e (Za (fun h=>by cases h) fun _=>?_));rw [Jd u (by omega)];exact d a _ (by rw [Zcr f xs a])
  ·simp only [CQ] at h;rw [Uc (by omega)];rfl
 obtain ⟨y,e,rfl⟩:=m;exact e
def clE (r:Req):Zk:=⟨r.id.c,r.a.p,⟨r.id,[],Zck r.a⟩⟩
def ZB8 (f:List Zk) (j:f.length < 900) (a:LL) (r:Req) (p:Int) (w pa b:LL) (k:0≤r.a.p∧r.a.p < 64) (g:JW r.a.l r.a.h=Xc) (i:inB 262144 16 r.a.l r.a.h=Xc) :
  ZvM 0 262144 16 Xb (f.map Zf) a r.id.c r.id.op r.id.k r.a.g r.a.r r.a.p r.a.c r.a.v r.a.o r.a.h r.a.f r.a.l r.a.n r.a.u r.a.w r.s r.i r.e.id.c r.e.id.op r.e.id.k (Zd r.e.q) r.e.d.g r.e.d.t r.e.d.h r.e.d.j r.e.d.i r.e.d.f r.e.d.m p w pa b=Xa (if YJ f ⟨0,0,0⟩ [Zck r.a]=Xc then (E0,7,oT (f.map Zf) a r p w pa b) else ([clE r].map Zf,0,oT (f.map Zf) a r p w pa b)):=by
 have c:Ret (fun y=>y=if YJ f ⟨0,0,0⟩ [Zck r.a]=Xc then (E0,7,oT (f.map Zf) a r p w pa b) else ([clE r].map Zf,0,oT (f.map Zf) a r p w pa b)) (ZvM 0 262144 16 Xb (f.map Zf) a r.id.c r.id.op r.id.k r.a.g r.a.r r.a.p r.a.c r.a.v r.a.o r.a.h r.a.f r.a.l r.a.n r.a.u r.a.w r.s r.i r.e.id.c r.e.id.op r.e.id.k (Zd r.e.q) r.e.d.g r.e.d.t r.e.d.h r.e.d.j r.e.d.i r.e.d.f r.e.d.m p w pa b):=by
  have d:=ZAq f (by omega) ⟨0,0,0⟩ [Zck r.a] (by simp);rw [ZqX];refine Za (fun h=>?_) fun _=>Za (fun h=>?_) fun _=>Zb (Zww ..) (Za (fun h=>?_) fun _=>Zb (ZAb ..) (Za (fun h=>?_) fun _=>Zb d (Za (fun h=>Zc ?_) fun h=>Zc ?_)))
  ·exfalso;simp only [CQ] at h;omega
  ·exfalso;simp only [CQ] at h;omega
  ·rw [g] at h;cases h
  ·rw [i] at h;cases h
  ·rw [P4 h];rfl
  ·rw [P3 h];rfl
 obtain ⟨y,e,rfl⟩:=c;exact e
def ZhP (xs:List Zk):LL:=xs.map fun x=>Wd x.b
def Zsi (f:List Zk) (n:Kj f) (a:LL) (r:Req) (p:Int) (w pa b:LL) (xs:List Zk) (o:f.length+xs.length < 900) (m:∀ x∈xs,x.b.q.length≤20) (q:Kw f xs):Zmc 0 262144 16 Xb (f.map Zf) a r.id.c r.id.op r.id.k r.a.g r.a.r r.a.p r.a.c r.a.v r.a.o r.a.h r.a.f r.a.l r.a.n r.a.u r.a.w r.s r.i r.e.id.c r.e.id.op r.e.id.k (Zd r.e.q) r.e.d.g r.e.d.t r.e.d.h r.e.d.j r.e.d.i r.e.d.f r.e.d.m p w pa b (xs.map Zf) 0=Xa ([mM 2 r.id.c 0 r.id 0 Xb (ZhP xs)],oT ((Jm f xs).map Zf) a r 5 E0 pa b):=by
 have d:=ZzA f n a r p w pa b xs o m q
 have g:Ret (fun y=>y=([mM 2 r.id.c 0 r.id 0 Xb (ZhP xs)],oT ((Jm f xs).map Zf) a r 5 E0 pa b)) (ZcU ZG 0 262144 16 Xb ((Jm f xs).map Zf) a r.id.c r.id.op r.id.k r.a.g r.a.r r.a.p r.a.c r.a.v r.a.o r.a.h r.a.f r.a.l r.a.n r.a.u r.a.w r.s r.i r.e.id.c r.e.id.op r.e.id.k (Zd r.e.q) r.e.d.g r.e.d.t r.e.d.h r.e.d.j r.e.d.i r.e.d.f r.e.d.m p w pa b E0 (xs.map Zf) (Xg (xs.map Zf):Int) 0):=by
  rw [Xi];refine Zo (F:=fun k (s:LL) i=>ZcU k 0 262144 16 Xb ((Jm f xs).map Zf) a r.id.c r.id.op r.id.k r.a.g r.a.r r.a.p r.a.c r.a.v r.a.o r.a.h r.a.f r.a.l r.a.n r.a.u r.a.w r.s r.i r.e.id.c r.e.id.op r.e.id.k (Zd r.e.q) r.e.d.g r.e.d.t r.e.d.h r.e.d.j r.e.d.i r.e.d.f r.e.d.m p w pa b s (xs.map Zf) (xs.length:Int) i) xs.length (fun i s=>s=ZhP (xs.take i)) (by omega) (fun k i s t u j=>?_) E0 rfl;subst u;refine Zi (ZlL ..) (Za (fun h=>?_) fun h=>?_)
  ·simp only [CQ] at h;have c:i < xs.length:=by omega
   have v:=m _ (XC c);refine Zi (ZO c _) (Zb (s58 xs[i].b (by omega)) (Zg (Zj (by unfold ZhP;simp;omega) (by decide)) ?_));rw [Jd t (by omega)];refine j c _ ?_;rw [TP c];unfold ZhP;rw [Us];rfl
  ·simp only [CQ] at h;rw [Uc (by omega)];exact Zb (s48 ((Jm f xs).map Zf) a r p w pa b 0 Xb (ZhP xs)) (Zc rfl)
 have l:Ret (fun y=>y=([mM 2 r.id.c 0 r.id 0 Xb (ZhP xs)],oT ((Jm f xs).map Zf) a r 5 E0 pa b)) (Zmc 0 262144 16 Xb (f.map Zf) a r.id.c r.id.op r.id.k r.a.g r.a.r r.a.p r.a.c r.a.v r.a.o r.a.h r.a.f r.a.l r.a.n r.a.u r.a.w r.s r.i r.e.id.c r.e.id.op r.e.id.k (Zd r.e.q) r.e.d.g r.e.d.t r.e.d.h r.e.d.j r.e.d.i r.e.d.f r.e.d.m p w pa b (xs.map Zf) 0):=by
  rw [Znb];refine Za (fun _=>Zb d (Za (fun h=>by cases h) fun _=>Za (fun h=>?_) fun _=>g)) fun h=>(h (by kernel_rfl)).elim;exact absurd h (by decide)
 obtain ⟨y,e,rfl⟩:=l;exact e
def ZuV (f:List Zk) (b:LL) (r:Req) (p:Int) (w pa c:LL) (a:Int) (g:a≠0):Zmc 0 262144 16 Xb (f.map Zf) b r.id.c r.id.op r.id.k r.a.g r.a.r r.a.p r.a.c r.a.v r.a.o r.a.h r.a.f r.a.l r.a.n r.a.u r.a.w r.s r.i r.e.id.c r.e.id.op r.e.id.k (Zd r.e.q) r.e.d.g r.e.d.t r.e.d.h r.e.d.j r.e.d.i r.e.d.f r.e.d.m p w pa c E0 a=Xa ([mM 2 r.id.c 0 r.id a Xb E0],oT (f.map Zf) b r 5 E0 pa c):=by
 have d:Ret (fun y=>y=([mM 2 r.id.c 0 r.id a Xb E0],oT (f.map Zf) b r 5 E0 pa c)) (Zmc 0 262144 16 Xb (f.map Zf) b r.id.c r.id.op r.id.k r.a.g r.a.r r.a.p r.a.c r.a.v r.a.o r.a.h r.a.f r.a.l r.a.n r.a.u r.a.w r.s r.i r.e.id.c r.e.id.op r.e.id.k (Zd r.e.q) r.e.d.g r.e.d.t r.e.d.h r.e.d.j r.e.d.i r.e.d.f r.e.d.m p w pa c E0 a):=by
  rw [Znb];refine Za (fun h=>absurd (Ju h) g) fun _=>Za (fun _=>Zb (s48 (f.map Zf) b r p w pa c a Xb E0) (Zc rfl)) fun h=>absurd (Zqn g) h
 obtain ⟨y,e,rfl⟩:=d;exact e
def Zeq (s:Yt) (i:Id) (cs:List Cap):List Yt:=cs.mapIdx fun j x=>Ji s ⟨i.c,i.op,(j:Int)⟩ x
def VD (s:Yt) (i:Id) (cs:List Cap):(Zeq s i cs).length=cs.length:=by simp [Zeq]
def Zpd (s:Yt) (i:Id) (cs:List Cap) {j:Nat} (a:j < cs.length):(Zeq s i cs)[j]'(by rw [VD];exact a)=Ji s ⟨i.c,i.op,(j:Int)⟩ cs[j]:=by simp [Zeq]
set_option maxHeartbeats 4000000 in
def ZAU (f:List Zk) (Z:f.length < 800) (L:f.Pairwise fun a b=>lte a b=Xc) (k:Nat) (M:k < f.length) (c:LL) (r:Req) (p:Int) (w pa d:LL) (N:r.e.id=f[k].b.id) (O:r.id.c=f[k].c) (Q:r.a.r=f[k].r) (J:Jw f[k].b=Xc) (hc:1≤r.a.n∧r.a.n≤8∧0≤r.a.p∧r.a.p≤64-r.a.n) (R:∀ j:Nat,j < 8→Kq ⟨r.id.c,r.id.op,(j:Int)⟩=Xc∧(⟨r.id.c,r.id.op,(j:Int)⟩:Id)≠f[k].b.id∧(⟨r.id.c,r.id.op,(j:Int)⟩:Id)∉f[k].b.q) (v:f[k].b.q.length≠8)
  (S:JN f[k].b.d r.a.o r.a.h r.a.f r.i r.a.l r.a.n=0) (cs:List Cap) (A:Yl f[k].b.d r.a.o r.a.h r.a.f r.i r.a.l r.a.n=cs.map Kh) (C:cs.length=r.a.n.toNat) (D:∀ x∈cs,J0 x=Xc) :
  Zwe 0 262144 16 Xb (f.map Zf) c r.id.c r.id.op r.id.k r.a.g r.a.r r.a.p r.a.c r.a.v r.a.o r.a.h r.a.f r.a.l r.a.n r.a.u r.a.w r.s r.i r.e.id.c r.e.id.op r.e.id.k (Zd r.e.q) r.e.d.g r.e.d.t r.e.d.h r.e.d.j r.e.d.i r.e.d.f r.e.d.m p w pa d=Xa (if YJ f f[k].b.id cs=Xc then (E0,7,oT (f.map Zf) c r p w pa d) else ((JE r.id.c r.a.p (Zeq f[k].b r.id cs)).map Zf,0,oT (f.map Zf) c r p w pa d)):=by
 have h8:=(Z4 J).2.2.1;have g8:cs.length≤8:=by rw [C];omega
 have m:P1 .sub .i64 64 r.a.n=64-r.a.n:=Zdl (by omega) (by omega)
 have n:Ret (fun y=>y=if YJ f f[k].b.id cs=Xc then (E0,7,oT (f.map Zf) c r p w pa d) else ((JE r.id.c r.a.p (Zeq f[k].b r.id cs)).map Zf,0,oT (f.map Zf) c r p w pa d)) (ZgW ZG 0 262144 16 Xb (f.map Zf) c r.id.c r.id.op r.id.k r.a.g r.a.r r.a.p r.a.c r.a.v r.a.o r.a.h r.a.f r.a.l r.a.n r.a.u r.a.w r.s r.i r.e.id.c r.e.id.op r.e.id.k (Zd r.e.q) r.e.d.g r.e.d.t r.e.d.h r.e.d.j r.e.d.i r.e.d.f r.e.d.m p w pa d r.id.c r.id.op r.id.k r.a.g r.a.r r.a.p r.a.c r.a.v r.a.o r.a.h r.a.f r.a.l r.a.n r.a.u r.a.w r.s r.i r.e.id.c r.e.id.op r.e.id.k (Zd r.e.q) r.e.d.g r.e.d.t r.e.d.h r.e.d.j r.e.d.i r.e.d.f r.e.d.m r.a.g r.a.r r.a.p r.a.c r.a.v r.a.o r.a.h r.a.f r.a.l r.a.n r.a.u r.a.w f[k].b.id.c f[k].b.id.op f[k].b.id.k (Zd f[k].b.q) f[k].b.d.g f[k].b.d.t f[k].b.d.h f[k].b.d.j f[k].b.d.i f[k].b.d.f f[k].b.d.m (cs.map Kh) E0 (cs.map Kh) (Xg (cs.map Kh):Int) 0):=by
  rw [Xi];refine Zo (F:=fun q (g:LL) z=>ZgW q 0 262144 16 Xb (f.map Zf) c r.id.c r.id.op r.id.k r.a.g r.a.r r.a.p r.a.c r.a.v r.a.o r.a.h r.a.f r.a.l r.a.n r.a.u r.a.w r.s r.i r.e.id.c r.e.id.op r.e.id.k (Zd r.e.q) r.e.d.g r.e.d.t r.e.d.h r.e.d.j r.e.d.i r.e.d.f r.e.d.m p w pa d r.id.c r.id.op r.id.k r.a.g r.a.r r.a.p r.a.c r.a.v r.a.o r.a.h r.a.f r.a.l r.a.n r.a.u r.a.w r.s r.i r.e.id.c r.e.id.op r.e.id.k (Zd r.e.q) r.e.d.g r.e.d.t r.e.d.h r.e.d.j r.e.d.i r.e.d.f r.e.d.m r.a.g r.a.r r.a.p r.a.c r.a.v r.a.o r.a.h r.a.f r.a.l r.a.n r.a.u r.a.w f[k].b.id.c f[k].b.id.op f[k].b.id.k (Zd f[k].b.q) f[k].b.d.g f[k].b.d.t f[k].b.d.h f[k].b.d.j f[k].b.d.i f[k].b.d.f f[k].b.d.m (cs.map Kh) g (cs.map Kh) (cs.length:Int) z) cs.length (fun i g=>g=((JE r.id.c r.a.p (Zeq f[k].b r.id cs)).take i).map Zf) (by omega) (fun q i g E T o=>?_) E0 rfl;subst T;refine Zi (ZmI ..) (Za (fun s=>?_) fun G=>?_)
  ·simp only [CQ] at s;have l:i < cs.length:=UM.1 s;obtain ⟨U,W,X⟩:=R i (by omega);have t:=ZAj f[k].b J ⟨r.id.c,r.id.op,(i:Int)⟩ U cs[i] (D _ (XC l)) W X v;have Y:P1 .add .i64 r.a.p (i:Int)=r.a.p+i:=JP (by omega) (by omega);refine Zi (ZbJ l _) (Zb t (Za (fun h=>?_) fun _=>Zg (Zj (by rw [Xi,Xu,YC,VD];simp;omega) (by decide)) ?_))
   ·exact absurd h (show ¬ P0 .neq 0 0=Xc by decide)
   rw [Jd E (by omega),Y];refine o l _ ?_;rw [TP (by rw [YC,VD];exact l),ZaU _ _ _ (by rw [VD];exact l),Zpd f[k].b r.id cs l,Us];rfl
  ·simp only [CQ] at G;rw [Uc (by rw [YC,VD];omega)];exact Zb (ZAq f (by omega) f[k].b.id cs (by omega)) (Za (fun h=>Zc (by rw [P4 h];rfl)) fun h=>Zc (by rw [P3 h];rfl))
 have u:ZwY f[k].b.d.g f[k].b.d.t f[k].b.d.h f[k].b.d.j f[k].b.d.i f[k].b.d.f f[k].b.d.m r.a.o r.a.h r.a.f r.i r.a.l r.a.n=Xa (cs.map Kh,0):=by
  rw [ZBf,← A];exact congrArg (fun z=>Xa (_,z)) S
 have H:Ret (fun y=>y=if YJ f f[k].b.id cs=Xc then (E0,7,oT (f.map Zf) c r p w pa d) else ((JE r.id.c r.a.p (Zeq f[k].b r.id cs)).map Zf,0,oT (f.map Zf) c r p w pa d)) (Zwe 0 262144 16 Xb (f.map Zf) c r.id.c r.id.op r.id.k r.a.g r.a.r r.a.p r.a.c r.a.v r.a.o r.a.h r.a.f r.a.l r.a.n r.a.u r.a.w r.s r.i r.e.id.c r.e.id.op r.e.id.k (Zd r.e.q) r.e.d.g r.e.d.t r.e.d.h r.e.d.j r.e.d.i r.e.d.f r.e.d.m p w pa d):=by
  rw [ZrQ];refine Za (fun h=>?_) fun _=>Za (fun h=>?_) fun _=>Za (fun h=>?_) fun _=>Za (fun h=>?_) fun _=>Zb (Zxv f (by omega) L k M c r p w pa d N O Q) (Za (fun h=>by cases h) fun _=>Zb u (Za (fun h=>absurd h (show ¬ P0 .neq 0 0=Xc by decide)) fun _=>n))
  ·exfalso;simp only [CQ] at h;omega
  ·exfalso;simp only [CQ] at h;omega
  ·exfalso;simp only [CQ] at h;omega
  ·exfalso;simp only [CQ] at h;rw [m] at h;omega
 obtain ⟨y,e,rfl⟩:=H;exact e
def ZxN (f:List Zk) (A:f.length < 800) (j:f.Pairwise fun a b=>lte a b=Xc) (k:Nat) (l:k < f.length) (c:LL) (r:Req) (p:Int) (w pa d:LL) (m:r.e.id=f[k].b.id) (n:r.id.c=f[k].c) (o:r.a.r=f[k].r) (q:Jw f[k].b=Xc) (s:Kq r.id=Xc) (t:r.id≠f[k].b.id) (u:r.id∉f[k].b.q) (v:0≤r.a.p∧r.a.p < 64) (C:0≤r.a.c∧r.a.c < 32) (x:f[k].b.q.length≠8) (g:∀ e∈f,e.b.id≠r.id) (z:∃ e∈f,e.c=r.a.c∧e.r=r.a.p) :
  ZsS 0 262144 16 Xb (f.map Zf) c r.id.c r.id.op r.id.k r.a.g r.a.r r.a.p r.a.c r.a.v r.a.o r.a.h r.a.f r.a.l r.a.n r.a.u r.a.w r.s r.i r.e.id.c r.e.id.op r.e.id.k (Zd r.e.q) r.e.d.g r.e.d.t r.e.d.h r.e.d.j r.e.d.i r.e.d.f r.e.d.m p w pa d=Xa ([mM 2 r.id.c 0 r.id 3 Xb E0],oT (f.map Zf) c r 5 E0 pa d):=by
 have i:Ret (fun y=>y=([mM 2 r.id.c 0 r.id 3 Xb E0],oT (f.map Zf) c r 5 E0 pa d)) (ZsS 0 262144 16 Xb (f.map Zf) c r.id.c r.id.op r.id.k r.a.g r.a.r r.a.p r.a.c r.a.v r.a.o r.a.h r.a.f r.a.l r.a.n r.a.u r.a.w r.s r.i r.e.id.c r.e.id.op r.e.id.k (Zd r.e.q) r.e.d.g r.e.d.t r.e.d.h r.e.d.j r.e.d.i r.e.d.f r.e.d.m p w pa d):=by
  rw [ZlX];refine Za (fun h=>?_) fun _=>Za (fun h=>?_) fun _=>Zb (ZxB f (by omega) j k l c r p w pa d m n o q s t u v r.a.c x) (Za (fun _=>Zb (Zym f (by omega) c r p w pa d (KW r f[k].b r.a.c) g z) (Za (fun _=>Za (fun _=>Zb (s48 (f.map Zf) c r p w pa d 3 Xb E0) (Zc rfl)) fun h=>(h (by kernel_rfl)).elim) fun h=>absurd rfl h)) fun h=>(h (by kernel_rfl)).elim)
  ·simp only [CQ] at h;omega
  ·simp only [CQ] at h;omega
 obtain ⟨y,e,rfl⟩:=i;exact e
def ZAB (a b:LL) (r:Req) (p:Int) (w pa c:LL) (g:r.a.g=1) {xs:LL} {d:Int} {R:Qt14} (i:ZvM 0 262144 16 Xb a b r.id.c r.id.op r.id.k r.a.g r.a.r r.a.p r.a.c r.a.v r.a.o r.a.h r.a.f r.a.l r.a.n r.a.u r.a.w r.s r.i r.e.id.c r.e.id.op r.e.id.k (Zd r.e.q) r.e.d.g r.e.d.t r.e.d.h r.e.d.j r.e.d.i r.e.d.f r.e.d.m p w pa c=Xa (xs,d,oT a b r p w pa c)) (j:Zmc 0 262144 16 Xb a b r.id.c r.id.op r.id.k r.a.g r.a.r r.a.p r.a.c r.a.v r.a.o r.a.h r.a.f r.a.l r.a.n r.a.u r.a.w r.s r.i r.e.id.c r.e.id.op r.e.id.k (Zd r.e.q) r.e.d.g r.e.d.t r.e.d.h r.e.d.j r.e.d.i r.e.d.f r.e.d.m p w pa c xs d=Xa R):g85 0 262144 16 Xb a b r.id.c r.id.op r.id.k r.a.g r.a.r r.a.p r.a.c r.a.v r.a.o r.a.h r.a.f r.a.l r.a.n r.a.u r.a.w r.s r.i r.e.id.c r.e.id.op r.e.id.k (Zd r.e.q) r.e.d.g r.e.d.t r.e.d.h r.e.d.j r.e.d.i r.e.d.f r.e.d.m p w pa c=Xa R:=by
 have f:Ret (fun y=>y=R) (g85 0 262144 16 Xb a b r.id.c r.id.op r.id.k r.a.g r.a.r r.a.p r.a.c r.a.v r.a.o r.a.h r.a.f r.a.l r.a.n r.a.u r.a.w r.s r.i r.e.id.c r.e.id.op r.e.id.k (Zd r.e.q) r.e.d.g r.e.d.t r.e.d.h r.e.d.j r.e.d.i r.e.d.f r.e.d.m p w pa c):=by
  rw [ZdJ];exact Za (fun _=>Zb i (Zb j (Zc rfl))) fun h=>absurd (YQ g) h
 obtain ⟨y,e,rfl⟩:=f;exact e
def ZAz (a b:LL) (r:Req) (p:Int) (w pa c:LL) (g:r.a.g=2) {xs:LL} {d:Int} {R:Qt14} (i:Zwe 0 262144 16 Xb a b r.id.c r.id.op r.id.k r.a.g r.a.r r.a.p r.a.c r.a.v r.a.o r.a.h r.a.f r.a.l r.a.n r.a.u r.a.w r.s r.i r.e.id.c r.e.id.op r.e.id.k (Zd r.e.q) r.e.d.g r.e.d.t r.e.d.h r.e.d.j r.e.d.i r.e.d.f r.e.d.m p w pa c=Xa (xs,d,oT a b r p w pa c)) (j:Zmc 0 262144 16 Xb a b r.id.c r.id.op r.id.k r.a.g r.a.r r.a.p r.a.c r.a.v r.a.o r.a.h r.a.f r.a.l r.a.n r.a.u r.a.w r.s r.i r.e.id.c r.e.id.op r.e.id.k (Zd r.e.q) r.e.d.g r.e.d.t r.e.d.h r.e.d.j r.e.d.i r.e.d.f r.e.d.m p w pa c xs d=Xa R):g85 0 262144 16 Xb a b r.id.c r.id.op r.id.k r.a.g r.a.r r.a.p r.a.c r.a.v r.a.o r.a.h r.a.f r.a.l r.a.n r.a.u r.a.w r.s r.i r.e.id.c r.e.id.op r.e.id.k (Zd r.e.q) r.e.d.g r.e.d.t r.e.d.h r.e.d.j r.e.d.i r.e.d.f r.e.d.m p w pa c=Xa R:=by
 have f:Ret (fun y=>y=R) (g85 0 262144 16 Xb a b r.id.c r.id.op r.id.k r.a.g r.a.r r.a.p r.a.c r.a.v r.a.o r.a.h r.a.f r.a.l r.a.n r.a.u r.a.w r.s r.i r.e.id.c r.e.id.op r.e.id.k (Zd r.e.q) r.e.d.g r.e.d.t r.e.d.h r.e.d.j r.e.d.i r.e.d.f r.e.d.m p w pa c):=by
  rw [ZdJ];refine Za (fun h=>?_) fun _=>Za (fun _=>Zb i (Zb j (Zc rfl))) fun h=>absurd (YQ g) h;exfalso;simp only [CQ] at h;omega
 obtain ⟨y,e,rfl⟩:=f;exact e
def ZBL (a b:LL) (r:Req) (p:Int) (w pa c:LL) (g:r.a.g=3) {xs:LL} {d:Int} {R:Qt14} (i:Ztf 0 262144 16 Xb a b r.id.c r.id.op r.id.k r.a.g r.a.r r.a.p r.a.c r.a.v r.a.o r.a.h r.a.f r.a.l r.a.n r.a.u r.a.w r.s r.i r.e.id.c r.e.id.op r.e.id.k (Zd r.e.q) r.e.d.g r.e.d.t r.e.d.h r.e.d.j r.e.d.i r.e.d.f r.e.d.m p w pa c r.id.c=Xa (xs,d,oT a b r p w pa c)) (j:Zmc 0 262144 16 Xb a b r.id.c r.id.op r.id.k r.a.g r.a.r r.a.p r.a.c r.a.v r.a.o r.a.h r.a.f r.a.l r.a.n r.a.u r.a.w r.s r.i r.e.id.c r.e.id.op r.e.id.k (Zd r.e.q) r.e.d.g r.e.d.t r.e.d.h r.e.d.j r.e.d.i r.e.d.f r.e.d.m p w pa c xs d=Xa R):g85 0 262144 16 Xb a b r.id.c r.id.op r.id.k r.a.g r.a.r r.a.p r.a.c r.a.v r.a.o r.a.h r.a.f r.a.l r.a.n r.a.u r.a.w r.s r.i r.e.id.c r.e.id.op r.e.id.k (Zd r.e.q) r.e.d.g r.e.d.t r.e.d.h r.e.d.j r.e.d.i r.e.d.f r.e.d.m p w pa c=Xa R:=by
 have f:Ret (fun y=>y=R) (g85 0 262144 16 Xb a b r.id.c r.id.op r.id.k r.a.g r.a.r r.a.p r.a.c r.a.v r.a.o r.a.h r.a.f r.a.l r.a.n r.a.u r.a.w r.s r.i r.e.id.c r.e.id.op r.e.id.k (Zd r.e.q) r.e.d.g r.e.d.t r.e.d.h r.e.d.j r.e.d.i r.e.d.f r.e.d.m p w pa c):=by
  rw [ZdJ];refine Za (fun h=>?_) fun _=>Za (fun h=>?_) fun _=>Za (fun _=>Zb i (Zb j (Zc rfl))) fun h=>absurd (YQ g) h
  ·exfalso;simp only [CQ] at h;omega
  ·exfalso;simp only [CQ] at h;omega
 obtain ⟨y,e,rfl⟩:=f;exact e
def ZBW (f:List Zk) (n:Kj f) (t:f.length < 800) (i:f.Pairwise fun a b=>lte a b=Xc) (k:Nat) (j:k < f.length) (d:LL) (r:Req) (p:Int) (w pa g:LL) (o:r.e.id=f[k].b.id) (q:r.id.c=f[k].c) (s:r.a.r=f[k].r) (l:r.a.g=5):g85 0 262144 16 Xb (f.map Zf) d r.id.c r.id.op r.id.k r.a.g r.a.r r.a.p r.a.c r.a.v r.a.o r.a.h r.a.f r.a.l r.a.n r.a.u r.a.w r.s r.i r.e.id.c r.e.id.op r.e.id.k (Zd r.e.q) r.e.d.g r.e.d.t r.e.d.h r.e.d.j r.e.d.i r.e.d.f r.e.d.m p w pa g=Xa ([mM 2 r.id.c 0 r.id 0 Xb E0],oT ((f.filter fun x=>!decide (x.b.id=f[k].b.id)).map Zf) d r 5 E0 pa g):=by
 have c:=s47 f n (by omega) i k j f[k].b.id rfl;rw [YS i k j] at c;generalize (f.filter fun x=>!decide (x.b.id=f[k].b.id)).map Zf=X at c ⊢
 have m:Ret (fun y=>y=([mM 2 r.id.c 0 r.id 0 Xb E0],oT X d r 5 E0 pa g)) (g85 0 262144 16 Xb (f.map Zf) d r.id.c r.id.op r.id.k r.a.g r.a.r r.a.p r.a.c r.a.v r.a.o r.a.h r.a.f r.a.l r.a.n r.a.u r.a.w r.s r.i r.e.id.c r.e.id.op r.e.id.k (Zd r.e.q) r.e.d.g r.e.d.t r.e.d.h r.e.d.j r.e.d.i r.e.d.f r.e.d.m p w pa g):=by
  rw [ZdJ];refine Za (fun h=>?_) fun _=>Za (fun h=>?_) fun _=>Za (fun h=>?_) fun _=>Za (fun h=>?_) fun _=>Zb (Zxv f (by omega) i k j d r p w pa g o q s) (Za (fun h=>by cases h) fun _=>Za (fun _=>Zb c (Zb (s48 X d r p w pa g 0 Xb E0) (Zc rfl))) fun h=>absurd (YQ l) h)
  ·exfalso;simp only [CQ] at h;omega
  ·exfalso;simp only [CQ] at h;omega
  ·exfalso;simp only [CQ] at h;omega
  ·exfalso;simp only [CQ] at h;omega
 obtain ⟨y,e,rfl⟩:=m;exact e
structure RqG (r:Req):Prop where
 id:Kq r.id=Xc
 k:r.id.k=0
 reg:r.s=0
 wid:r.i=32∨r.i=39
 kd:(r.a.g=1∧r.e=VH)∨(2≤r.a.g∧r.a.g≤6∧Jw r.e=Xc)
def RqG.q {r:Req} (h:RqG r):r.e.q.length≤8:=by
 rcases h.kd with ⟨_,h⟩ | ⟨_,_,h⟩
 ·rw [h];exact X7 _
 ·exact (Z4 h).2.2.1
def ZCc (r:Req) (h:RqG r):g41 r.id.c r.id.op r.id.k r.a.g r.a.r r.a.p r.a.c r.a.v r.a.o r.a.h r.a.f r.a.l r.a.n r.a.u r.a.w r.s r.i r.e.id.c r.e.id.op r.e.id.k (Zd r.e.q) r.e.d.g r.e.d.t r.e.d.h r.e.d.j r.e.d.i r.e.d.f r.e.d.m=Xa Xc:=by
 have i:=h.q
 have b:g80 r.id.c r.id.op r.id.k=Xa Xc:=by
  rw [ZpQ,ZuH,h.id,h.k];rfl
 have c:g81 r.s=Xa Xc:=by rw [h.reg];kernel_rfl
 have j:=h.wid
 have fin:Ret (fun x=>x=Xc) (if (P0 .eql r.a.g 1)=Xc then (g82 r.e.id.c r.e.id.op r.e.id.k (Zd r.e.q) r.e.d.g r.e.d.t r.e.d.h r.e.d.j r.e.d.i r.e.d.f r.e.d.m 0 0 0 E0 0 0 0 0 0 0 Xb).bind fun (a:Bool)=>Xa a else (g83 r.e.id.c r.e.id.op r.e.id.k (Zd r.e.q) r.e.d.g r.e.d.t r.e.d.h r.e.d.j r.e.d.i r.e.d.f r.e.d.m).bind fun (a:Bool)=>Xa a):=by
  rcases h.kd with ⟨k1,hs⟩ | ⟨k2,k6,hs⟩
  ·refine Za (fun _=>?_) fun h=>absurd (YQ k1) h;rw [hs];have d:g82 0 0 0 E0 0 0 0 0 0 0 Xb 0 0 0 E0 0 0 0 0 0 0 Xb=Xa Xc:=by kernel_rfl
   exact Zb d (Zc rfl)
  ·refine Za (fun h=>?_) fun _=>Zb (s83 r.e (by omega)) (Zc hs);exfalso;simp only [CQ] at h;omega
 have k:1≤r.a.g∧r.a.g≤6:=by rcases h.kd with ⟨k1,_⟩ | ⟨k2,k6,_⟩ <;> omega
 have f:Ret (fun x=>x=Xc) (g41 r.id.c r.id.op r.id.k r.a.g r.a.r r.a.p r.a.c r.a.v r.a.o r.a.h r.a.f r.a.l r.a.n r.a.u r.a.w r.s r.i r.e.id.c r.e.id.op r.e.id.k (Zd r.e.q) r.e.d.g r.e.d.t r.e.d.h r.e.d.j r.e.d.i r.e.d.f r.e.d.m):=by
  rw [ZuE];refine Zb b (Za (fun h=>by cases h) fun _=>Za (fun h=>?_) fun _=>Za (fun h=>?_) fun _=>Zb c (Za (fun h=>by cases h) fun _=>Za (fun h=>Za (fun g=>?_) fun _=>fin) fun _=>fin))
  ·exfalso;simp only [CQ] at h;omega
  ·exfalso;simp only [CQ] at h;omega
  ·exfalso;simp only [CQ] at h g;omega
 obtain ⟨r,e,rfl⟩:=f;exact e
def ZzG (a:LL) (r:Req) (b:RqG r) {R:Qt14} (h:g85 0 262144 16 Xb a E0 r.id.c r.id.op r.id.k r.a.g r.a.r r.a.p r.a.c r.a.v r.a.o r.a.h r.a.f r.a.l r.a.n r.a.u r.a.w r.s r.i r.e.id.c r.e.id.op r.e.id.k (Zd r.e.q) r.e.d.g r.e.d.t r.e.d.h r.e.d.j r.e.d.i r.e.d.f r.e.d.m 0 E0 E0 E0=Xa R):g13 0 262144 16 Xb a E0 0 0 0 0 0 0 0 0 0 0 0 0 0 0 0 0 0 0 0 0 E0 0 0 0 0 0 0 Xb 0 E0 E0 E0 r.id.c r.id.op r.id.k r.a.g r.a.r r.a.p r.a.c r.a.v r.a.o r.a.h r.a.f r.a.l r.a.n r.a.u r.a.w r.s r.i r.e.id.c r.e.id.op r.e.id.k (Zd r.e.q) r.e.d.g r.e.d.t r.e.d.h r.e.d.j r.e.d.i r.e.d.f r.e.d.m=Xa R:=by
 have f:=b.q;have d:=b.reg
 have c:Ret (fun x=>x=R) (g13 0 262144 16 Xb a E0 0 0 0 0 0 0 0 0 0 0 0 0 0 0 0 0 0 0 0 0 E0 0 0 0 0 0 0 Xb 0 E0 E0 E0 r.id.c r.id.op r.id.k r.a.g r.a.r r.a.p r.a.c r.a.v r.a.o r.a.h r.a.f r.a.l r.a.n r.a.u r.a.w r.s r.i r.e.id.c r.e.id.op r.e.id.k (Zd r.e.q) r.e.d.g r.e.d.t r.e.d.h r.e.d.j r.e.d.i r.e.d.f r.e.d.m):=by
  rw [Zv2];refine Zb (s39 a r) (Za (fun h=>by cases h) fun _=>Za (fun h=>?_) fun _=>Zb (ZCc r b) (Za (fun h=>by cases h) fun _=>Za (fun h=>?_) fun _=>?_))
  ·exfalso;simp only [CQ] at h;omega
  ·exfalso;simp only [CQ] at h;omega
  ·exact Zb (s42 r (by omega)) (Zg (Zj (by simp) (by decide)) (Zb (ZBP a r h) (Zc rfl)))
 obtain ⟨r,e,rfl⟩:=c;exact e
def Zzn {f:Int} (a:0≤f∧f < 32) {i:Id} (b:Kq i=Xc) (c:i.k=0):g46 3 0 f 0 0 0 0 i.c i.op i.k 0 Xb 0 0 0 0 0 0 0 0 0 0 0 0 0 0 0 0 0 0 0 0 E0 0 0 0 0 0 0 Xb E0 E0 E0 E0 0 0 E0 E0 E0 E0 E0 E0 E0 E0 0 0 E0 E0 E0 E0 E0 E0 E0 E0 Xb 0 E0 E0 E0 E0 E0 E0 E0 E0=Xa Xc:=by
 rw [Zue,s90 a,s80 b c];rfl
def Zyu {f:Int} (b:0≤f∧f < 32) {i:Id} (c:Kq i=Xc) (d:i.k=0):g46 5 0 f 0 0 0 0 i.c i.op i.k 0 Xb 0 0 0 0 0 0 0 0 0 0 0 0 0 0 0 0 0 0 0 0 E0 0 0 0 0 0 0 Xb E0 E0 E0 E0 0 0 E0 E0 E0 E0 E0 E0 E0 E0 0 0 E0 E0 E0 E0 E0 E0 E0 E0 Xb 0 E0 E0 E0 E0 E0 E0 E0 E0=Xa Xc:=by
 have a:ZAK 0=Xa Xc:=by kernel_rfl
 rw [Zvr,s90 b,s80 c d,a];rfl
def ZuD (a w pa b:LL) (r:Req) (f:Kq r.id=Xc) (c:r.id.k=0) (g:0≤r.a.c∧r.a.c < 32):g16 0 262144 16 Xb a E0 r.id.c r.id.op r.id.k r.a.g r.a.r r.a.p r.a.c r.a.v r.a.o r.a.h r.a.f r.a.l r.a.n r.a.u r.a.w r.s r.i r.e.id.c r.e.id.op r.e.id.k (Zd r.e.q) r.e.d.g r.e.d.t r.e.d.h r.e.d.j r.e.d.i r.e.d.f r.e.d.m 1 w pa b 5 0 r.a.c 0 0 0 0 r.id.c r.id.op r.id.k 0 Xb 0 0 0 0 0 0 0 0 0 0 0 0 0 0 0 0 0 0 0 0 E0 0 0 0 0 0 0 Xb E0 E0 E0 E0 0 0 E0 E0 E0 E0 E0 E0 E0 E0 0 0 E0 E0 E0 E0 E0 E0 E0 E0 Xb 0 E0 E0 E0 E0 E0 E0 E0 E0=Xa ([mM 2 r.id.c 0 r.id 0 Xc E0],E0,oT a E0 r 5 E0 pa b):=by
 have d:Ret (fun y=>y=([mM 2 r.id.c 0 r.id 0 Xc E0],E0,oT a E0 r 5 E0 pa b)) (g16 0 262144 16 Xb a E0 r.id.c r.id.op r.id.k r.a.g r.a.r r.a.p r.a.c r.a.v r.a.o r.a.h r.a.f r.a.l r.a.n r.a.u r.a.w r.s r.i r.e.id.c r.e.id.op r.e.id.k (Zd r.e.q) r.e.d.g r.e.d.t r.e.d.h r.e.d.j r.e.d.i r.e.d.f r.e.d.m 1 w pa b 5 0 r.a.c 0 0 0 0 r.id.c r.id.op r.id.k 0 Xb 0 0 0 0 0 0 0 0 0 0 0 0 0 0 0 0 0 0 0 0 E0 0 0 0 0 0 0 Xb E0 E0 E0 E0 0 0 E0 E0 E0 E0 E0 E0 E0 E0 0 0 E0 E0 E0 E0 E0 E0 E0 E0 Xb 0 E0 E0 E0 E0 E0 E0 E0 E0):=by
  rw [Zt9];refine Zb (Zyu g f c) (Za (fun h=>by cases h) fun _=>Za (fun h=>?_) fun _=>Za (fun _=>Zb (s48 a E0 r 1 w pa b 0 Xc E0) (Zc rfl)) fun h=>absurd (YQ rfl) h);exfalso;simp [CQ] at h
 obtain ⟨y,e,rfl⟩:=d;exact e
def ZBm (a:LL):g43 0 262144 16 Xb a E0 0 0 0 0 0 0 0 0 0 0 0 0 0 0 0 0 0 0 0 0 E0 0 0 0 0 0 0 Xb 0 E0 E0 E0=Xa (E0,iT a):=by
 have b:Ret (fun y=>y=(E0,iT a)) (g43 0 262144 16 Xb a E0 0 0 0 0 0 0 0 0 0 0 0 0 0 0 0 0 0 0 0 0 E0 0 0 0 0 0 0 Xb 0 E0 E0 E0):=by
  rw [Zqr];refine Za (fun h=>?_) fun _=>Za (fun _=>Zc rfl) fun h=>(h (by kernel_rfl)).elim;exfalso;simp only [CQ] at h;omega
 obtain ⟨y,e,rfl⟩:=b;exact e
def Ztr (a pa d:LL) (r:Req) (f:Kq r.id=Xc) (b:r.id.k=0) (g:0≤r.id.c∧r.id.c < 32):g16 0 262144 16 Xb a E0 r.id.c r.id.op r.id.k r.a.g r.a.r r.a.p r.a.c r.a.v r.a.o r.a.h r.a.f r.a.l r.a.n r.a.u r.a.w r.s r.i r.e.id.c r.e.id.op r.e.id.k (Zd r.e.q) r.e.d.g r.e.d.t r.e.d.h r.e.d.j r.e.d.i r.e.d.f r.e.d.m 5 E0 pa d 3 0 r.id.c 0 0 0 0 r.id.c r.id.op r.id.k 0 Xb 0 0 0 0 0 0 0 0 0 0 0 0 0 0 0 0 0 0 0 0 E0 0 0 0 0 0 0 Xb E0 E0 E0 E0 0 0 E0 E0 E0 E0 E0 E0 E0 E0 0 0 E0 E0 E0 E0 E0 E0 E0 E0 Xb 0 E0 E0 E0 E0 E0 E0 E0 E0=Xa (E0,E0,iT a):=by
 have c:Ret (fun y=>y=(E0,E0,iT a)) (g16 0 262144 16 Xb a E0 r.id.c r.id.op r.id.k r.a.g r.a.r r.a.p r.a.c r.a.v r.a.o r.a.h r.a.f r.a.l r.a.n r.a.u r.a.w r.s r.i r.e.id.c r.e.id.op r.e.id.k (Zd r.e.q) r.e.d.g r.e.d.t r.e.d.h r.e.d.j r.e.d.i r.e.d.f r.e.d.m 5 E0 pa d 3 0 r.id.c 0 0 0 0 r.id.c r.id.op r.id.k 0 Xb 0 0 0 0 0 0 0 0 0 0 0 0 0 0 0 0 0 0 0 0 E0 0 0 0 0 0 0 Xb E0 E0 E0 E0 0 0 E0 E0 E0 E0 E0 E0 E0 E0 0 0 E0 E0 E0 E0 E0 E0 E0 E0 Xb 0 E0 E0 E0 E0 E0 E0 E0 E0):=by
  rw [ZvC];refine Zb (Zzn g f b) (Za (fun h=>by cases h) fun _=>Za (fun h=>?_) fun _=>Za (fun _=>Zb (ZBm a) (Zc rfl)) fun h=>absurd (YQ rfl) h);exfalso;simp [CQ] at h
 obtain ⟨y,e,rfl⟩:=c;exact e
def dV (k e b:Int) (i:Id) (c:Int) (f:Bool) (d a:LL) (g:Int) (h:Bool) (o:Qt15):Qt1:=(k,0,0,e,0,0,b,i.c,i.op,i.k,c,f,0,0,0,0,0,0,0,0,0,0,0,0,0,0,0,0,0,0,0,0,E0,0,0,0,0,0,0,Xb,d,a,E0,E0,0,0,E0,E0,E0,E0,E0,E0,E0,E0,0,0,E0,E0,E0,E0,E0,E0,E0,E0,Xb,0,E0,E0,E0,E0,E0,E0,E0,E0,g,h,o)
def ZnO (b w pa c:LL) (r:Req) (d f e:Int) (g:Bool) (a:LL) (rf j:Int) (i k:Nat) (m:i < 200) (n:200≤k+i):WL k 0 262144 16 Xb b E0 r.id.c r.id.op r.id.k r.a.g r.a.r r.a.p r.a.c r.a.v r.a.o r.a.h r.a.f r.a.l r.a.n r.a.u r.a.w r.s r.i r.e.id.c r.e.id.op r.e.id.k (Zd r.e.q) r.e.d.g r.e.d.t r.e.d.h r.e.d.j r.e.d.i r.e.d.f r.e.d.m d w pa c [mM 2 f 0 r.id e g a] rf 0 0 0 0 0 0 0 0 0 0 0 Xb 0 0 0 0 0 0 0 0 0 0 0 0 0 0 0 0 0 0 0 0 E0 0 0 0 0 0 0 Xb E0 E0 E0 E0 0 0 E0 E0 E0 E0 E0 E0 E0 E0 0 0 E0 E0 E0 E0 E0 E0 E0 E0 Xb 0 E0 E0 E0 E0 E0 E0 E0 E0 j (i:Int)=Xa (dV 2 f 0 r.id e g E0 a j Xc (oT b E0 r d w pa c)):=by
 obtain ⟨k,rfl⟩:∃ q,k=q+1:=⟨k-1,by omega⟩
 have l:Ret (fun y=>y=dV 2 f 0 r.id e g E0 a j Xc (oT b E0 r d w pa c)) (WL (k+1) 0 262144 16 Xb b E0 r.id.c r.id.op r.id.k r.a.g r.a.r r.a.p r.a.c r.a.v r.a.o r.a.h r.a.f r.a.l r.a.n r.a.u r.a.w r.s r.i r.e.id.c r.e.id.op r.e.id.k (Zd r.e.q) r.e.d.g r.e.d.t r.e.d.h r.e.d.j r.e.d.i r.e.d.f r.e.d.m d w pa c [mM 2 f 0 r.id e g a] rf 0 0 0 0 0 0 0 0 0 0 0 Xb 0 0 0 0 0 0 0 0 0 0 0 0 0 0 0 0 0 0 0 0 E0 0 0 0 0 0 0 Xb E0 E0 E0 E0 0 0 E0 E0 E0 E0 E0 E0 E0 E0 0 0 E0 E0 E0 E0 E0 E0 E0 E0 Xb 0 E0 E0 E0 E0 E0 E0 E0 E0 j (i:Int)):=by
  refine Zi (ZeC ..) (Za (fun _=>Za (fun _=>Zi (Zql ..) (Zg (by decide) (Zg (by simp) (Za (fun _=>Zc rfl) fun h=>(h (by kernel_rfl)).elim)))) fun h=>(h (by kernel_rfl)).elim) fun h=>?_);exfalso;simp only [CQ] at h;omega
 obtain ⟨y,h,rfl⟩:=l;exact h
def Zwk (b w pa c:LL) (r:Req) (d:Kq r.id=Xc) (e:r.id.k=0) (i:0≤r.a.c∧r.a.c < 32) (a:LL):WL ZG 0 262144 16 Xb b E0 r.id.c r.id.op r.id.k r.a.g r.a.r r.a.p r.a.c r.a.v r.a.o r.a.h r.a.f r.a.l r.a.n r.a.u r.a.w r.s r.i r.e.id.c r.e.id.op r.e.id.k (Zd r.e.q) r.e.d.g r.e.d.t r.e.d.h r.e.d.j r.e.d.i r.e.d.f r.e.d.m 1 w pa c [mM 4 r.a.c r.a.p r.id 0 Xb a] 0 0 0 0 0 0 0 0 0 0 0 0 Xb 0 0 0 0 0 0 0 0 0 0 0 0 0 0 0 0 0 0 0 0 E0 0 0 0 0 0 0 Xb E0 E0 E0 E0 0 0 E0 E0 E0 E0 E0 E0 E0 E0 0 0 E0 E0 E0 E0 E0 E0 E0 E0 Xb 0 E0 E0 E0 E0 E0 E0 E0 E0 0 0=Xa (dV 2 r.id.c 0 r.id 0 Xc E0 E0 0 Xc (oT b E0 r 5 E0 pa c)):=by
 obtain ⟨k,j⟩:∃ q,ZG=q+1:=⟨ZG-1,by have:=Zam (n:=1000) (by decide);omega⟩;have f:200≤k+1:=by have:=Zam (n:=1000) (by decide);omega
 have g:Ret (fun y=>y=dV 2 r.id.c 0 r.id 0 Xc E0 E0 0 Xc (oT b E0 r 5 E0 pa c)) (WL ZG 0 262144 16 Xb b E0 r.id.c r.id.op r.id.k r.a.g r.a.r r.a.p r.a.c r.a.v r.a.o r.a.h r.a.f r.a.l r.a.n r.a.u r.a.w r.s r.i r.e.id.c r.e.id.op r.e.id.k (Zd r.e.q) r.e.d.g r.e.d.t r.e.d.h r.e.d.j r.e.d.i r.e.d.f r.e.d.m 1 w pa c [mM 4 r.a.c r.a.p r.id 0 Xb a] 0 0 0 0 0 0 0 0 0 0 0 0 Xb 0 0 0 0 0 0 0 0 0 0 0 0 0 0 0 0 0 0 0 0 E0 0 0 0 0 0 0 Xb E0 E0 E0 E0 0 0 E0 E0 E0 E0 E0 E0 E0 E0 0 0 E0 E0 E0 E0 E0 E0 E0 E0 Xb 0 E0 E0 E0 E0 E0 E0 E0 E0 0 0):=by
  rw [j];refine Zi (ZeC ..) (Za (fun _=>Za (fun _=>Zi (Zql ..) (Zg (by decide) (Zg (by simp) (Za (fun h=>(absurd h (show ¬ P0 .eql 4 2=Xc by decide))) fun _=>Za (fun _=>Zb (ZuD b w pa c r d e i) (Zg (Zj (by simp) (by decide)) (Zg (Zj (by simp) (by decide)) ?_))) fun h=>(h (by kernel_rfl)).elim)))) fun h=>(h (by kernel_rfl)).elim) fun h=>(h (by kernel_rfl)).elim);exact Zi (ZnO b E0 pa c r 5 r.id.c 0 Xc E0 0 0 1 k (by omega) f) (Zc rfl)
 obtain ⟨y,h,rfl⟩:=g;exact h
def ZmB (K:Int) (i:Id) (P:List Int) (b:LL):Prop:=b.length=P.length∧∀ j (e:j < P.length),∃ c d a,b[j]? = Xa c∧Zh6 hs0 c=Xa (mV K P[j] 0 i 0 Xb d a)
def ZvB (K:Int) (i:Id) (P:List Int):ZmB K i P (P.map (fun z=>mM K z 0 i 0 Xb E0)):=⟨by simp,fun j a=>⟨mM K P[j] 0 i 0 Xb E0,E0,E0,by rw [Xp,Xm a];rfl,ofm ..⟩⟩
def Zx7 (i:Id) (P:List Int) (h:Int→LL):ZmB 6 i P (P.map (fun z=>mI 6 z i (h z))):=⟨by simp,fun j a=>⟨mI 6 P[j] i (h P[j]),h P[j],E0,by rw [Xp,Xm a];rfl,ofi ..⟩⟩
def Zn6 {K:Int} {i:Id} {z:Int} {W:List Int} {e:LL} (h:ZmB K i (z::W) e):∃ c b d a,e=c::b∧Zh6 hs0 c=Xa (mV K z 0 i 0 Xb d a)∧ZmB K i W b:=by
 obtain ⟨c,d,a,f,g⟩:=h.2 0 (by simp)
 cases e with
 | nil => simp at f
 | cons c' b =>
  simp only [List.getElem?_cons_zero,Xf] at f;subst f;refine ⟨c',b,d,a,rfl,g,by have:=h.1;simpa using this,fun j k=>?_⟩;obtain ⟨c,d,a,l,m⟩:=h.2 (j+1) (by simpa using k);exact ⟨c,d,a,by simpa using l,by simpa using m⟩
def Zop (c:List AV) (l:LL):Xz (Xh 1) (c::l)=l:=rfl
def Zhp {Q:Qt1→Prop} (K R v o:Int) (S:(K=6∧R=7)∨(K=8∧R=9)∨(K=10∧R=11)) (r:Req) (P:List Int) (w es' l f w' g:LL) (j:Int) (T:0≤j∧j≤10) (L:g.length≤10) (U:f.length≤100)
  (H:∀ (z:Int) (W:List Int),z∈P→(z::W).Pairwise (· < ·)→W.length < 900→Ret (fun x=>(W = []→x=(f,g,oT es' E0 r o w' (Ze P) l))∧(W≠[]→x=(E0,E0,oT w E0 r v (Ze W) (Ze P) l))) (g16 0 262144 16 Xb w E0 r.id.c r.id.op r.id.k r.a.g r.a.r r.a.p r.a.c r.a.v r.a.o r.a.h r.a.f r.a.l r.a.n r.a.u r.a.w r.s r.i r.e.id.c r.e.id.op r.e.id.k (Zd r.e.q) r.e.d.g r.e.d.t r.e.d.h r.e.d.j r.e.d.i r.e.d.f r.e.d.m v (Ze (z::W)) (Ze P) l R 0 z 0 0 0 0 r.id.c r.id.op r.id.k 0 Xb 0 0 0 0 0 0 0 0 0 0 0 0 0 0 0 0 0 0 0 0 E0 0 0 0 0 0 0 Xb E0 E0 E0 E0 0 0 E0 E0 E0 E0 E0 E0 E0 E0 0 0 E0 E0 E0 E0 E0 E0 E0 E0 Xb 0 E0 E0 E0 E0 E0 E0 E0 E0)) :
  ∀ (W:List Int) (i k:Nat) (p:LL),(∀ z∈W,z∈P)→W.Pairwise (· < ·)→W≠[]→ZmB K r.id W p→200≤k+i→i+W.length≤190→(∀ C,200≤C+(i+W.length)→Ret Q (WL C 0 262144 16 Xb es' E0 r.id.c r.id.op r.id.k r.a.g r.a.r r.a.p r.a.c r.a.v r.a.o r.a.h r.a.f r.a.l r.a.n r.a.u r.a.w r.s r.i r.e.id.c r.e.id.op r.e.id.k (Zd r.e.q) r.e.d.g r.e.d.t r.e.d.h r.e.d.j r.e.d.i r.e.d.f r.e.d.m o w' (Ze P) l f 0 0 0 0 0 0 0 0 0 0 0 0 Xb 0 0 0 0 0 0 0 0 0 0 0 0 0 0 0 0 0 0 0 0 E0 0 0 0 0 0 0 Xb E0 E0 E0 E0 0 0 E0 E0 E0 E0 E0 E0 E0 E0 0 0 E0 E0 E0 E0 E0 E0 E0 E0 Xb 0 E0 E0 E0 E0 E0 E0 E0 E0 (j+(g.length:Int)) ((i+W.length:Nat):Int)))→
   Ret Q (WL k 0 262144 16 Xb w E0 r.id.c r.id.op r.id.k r.a.g r.a.r r.a.p r.a.c r.a.v r.a.o r.a.h r.a.f r.a.l r.a.n r.a.u r.a.w r.s r.i r.e.id.c r.e.id.op r.e.id.k (Zd r.e.q) r.e.d.g r.e.d.t r.e.d.h r.e.d.j r.e.d.i r.e.d.f r.e.d.m v (Ze W) (Ze P) l p 0 0 0 0 0 0 0 0 0 0 0 0 Xb 0 0 0 0 0 0 0 0 0 0 0 0 0 0 0 0 0 0 0 0 E0 0 0 0 0 0 0 Xb E0 E0 E0 E0 0 0 E0 E0 E0 E0 E0 E0 E0 E0 0 0 E0 E0 E0 E0 E0 E0 E0 E0 Xb 0 E0 E0 E0 E0 E0 E0 E0 E0 j (i:Int)):=by
 intro W
 induction W with
 | nil => exact fun _ _ _ _ _ h => absurd rfl h
 | cons z W ih =>
  intro i k p M N _ X hk u m;obtain ⟨k,rfl⟩:∃ q,k=q+1:=⟨k-1,by simp at u;omega⟩;obtain ⟨c,e,D,s,rfl,Y,A⟩:=Zn6 X;have hl:W.length≤190:=by simp at u;omega
  have E:e.length=W.length:=A.1;have Z:=H z W (M z (UX ..)) N (by omega)
  have fin:Ret Q ((g16 0 262144 16 Xb w E0 r.id.c r.id.op r.id.k r.a.g r.a.r r.a.p r.a.c r.a.v r.a.o r.a.h r.a.f r.a.l r.a.n r.a.u r.a.w r.s r.i r.e.id.c r.e.id.op r.e.id.k (Zd r.e.q) r.e.d.g r.e.d.t r.e.d.h r.e.d.j r.e.d.i r.e.d.f r.e.d.m v (Ze (z::W)) (Ze P) l R 0 z 0 0 0 0 r.id.c r.id.op r.id.k 0 Xb 0 0 0 0 0 0 0 0 0 0 0 0 0 0 0 0 0 0 0 0 E0 0 0 0 0 0 0 Xb E0 E0 E0 E0 0 0 E0 E0 E0 E0 E0 E0 E0 E0 0 0 E0 E0 E0 E0 E0 E0 E0 E0 Xb 0 E0 E0 E0 E0 E0 E0 E0 E0).bind fun (d:Qt12)=>
    Zl (ZB E0 (Xz (Xh 1) (c::e)) 1056)<|
    Zl (ZB (Xz (Xh 1) (c::e)) d.1 1056)<|
    WL k (d.2.2.1) (d.2.2.2.1) ((d4 d).1) ((d4 d).2.1) ((d6 d).1) ((d6 d).2.1) ((d8 d).1) ((d8 d).2.1) ((df d).1) ((df d).2.1) ((dg d).1) ((dg d).2.1) ((dh d).1) ((dh d).2.1) ((P2 d).1) ((P2 d).2.1) (d.2.2.2.2.2.2.2.2.2.2.2.2.2.2.2.2.2.2.1) (d.2.2.2.2.2.2.2.2.2.2.2.2.2.2.2.2.2.2.2.1) (d.2.2.2.2.2.2.2.2.2.2.2.2.2.2.2.2.2.2.2.2.1) (d.2.2.2.2.2.2.2.2.2.2.2.2.2.2.2.2.2.2.2.2.2.1) (d.2.2.2.2.2.2.2.2.2.2.2.2.2.2.2.2.2.2.2.2.2.2.1) (d.2.2.2.2.2.2.2.2.2.2.2.2.2.2.2.2.2.2.2.2.2.2.2.1) (d.2.2.2.2.2.2.2.2.2.2.2.2.2.2.2.2.2.2.2.2.2.2.2.2.1) (d.2.2.2.2.2.2.2.2.2.2.2.2.2.2.2.2.2.2.2.2.2.2.2.2.2.1) (d.2.2.2.2.2.2.2.2.2.2.2.2.2.2.2.2.2.2.2.2.2.2.2.2.2.2.1) (d.2.2.2.2.2.2.2.2.2.2.2.2.2.2.2.2.2.2.2.2.2.2.2.2.2.2.2.1) (d.2.2.2.2.2.2.2.2.2.2.2.2.2.2.2.2.2.2.2.2.2.2.2.2.2.2.2.2.1) (d.2.2.2.2.2.2.2.2.2.2.2.2.2.2.2.2.2.2.2.2.2.2.2.2.2.2.2.2.2.1) (d.2.2.2.2.2.2.2.2.2.2.2.2.2.2.2.2.2.2.2.2.2.2.2.2.2.2.2.2.2.2.1) (d.2.2.2.2.2.2.2.2.2.2.2.2.2.2.2.2.2.2.2.2.2.2.2.2.2.2.2.2.2.2.2.1) ((di d).1) ((di d).2.1) (d.2.2.2.2.2.2.2.2.2.2.2.2.2.2.2.2.2.2.2.2.2.2.2.2.2.2.2.2.2.2.2.2.2.2.1) (d.2.2.2.2.2.2.2.2.2.2.2.2.2.2.2.2.2.2.2.2.2.2.2.2.2.2.2.2.2.2.2.2.2.2.2.1) (d.2.2.2.2.2.2.2.2.2.2.2.2.2.2.2.2.2.2.2.2.2.2.2.2.2.2.2.2.2.2.2.2.2.2.2.2.1) (d.2.2.2.2.2.2.2.2.2.2.2.2.2.2.2.2.2.2.2.2.2.2.2.2.2.2.2.2.2.2.2.2.2.2.2.2.2.1) (d.2.2.2.2.2.2.2.2.2.2.2.2.2.2.2.2.2.2.2.2.2.2.2.2.2.2.2.2.2.2.2.2.2.2.2.2.2.2.1) (d.2.2.2.2.2.2.2.2.2.2.2.2.2.2.2.2.2.2.2.2.2.2.2.2.2.2.2.2.2.2.2.2.2.2.2.2.2.2.2) ((Xz (Xh 1) (c::e))++d.1) 0 0 0 0 0 0 0 0 0 0 0 0 Xb 0 0 0 0 0 0 0 0 0 0 0 0 0 0 0 0 0 0 0 0 E0 0 0 0 0 0 0 Xb E0 E0 E0 E0 0 0 E0 E0 E0 E0 E0 E0 E0 E0 0 0 E0 E0 E0 E0 E0 E0 E0 E0 Xb 0 E0 E0 E0 E0 E0 E0 E0 E0 (P1 .add .i64 j (Xg d.2.1:Int)) (P1 .add .i64 (i:Int) 1)):=by
   refine Zh Z fun x O=>?_;rw [Zop];by_cases hW:W = []
   ·have t:=O.1 hW;subst t;subst hW;have ho:e = []:=Uh (by simpa using E);subst ho;refine Zg (Zj (by simp) (by decide)) (Zg (Zj (by simp;omega) (by decide)) ?_);have G:P1 .add .i64 j (g.length:Int)=j+(g.length:Int):=JP (by omega) (by omega);have J:P1 .add .i64 (i:Int) 1=((i+1:Nat):Int):=Jd (n:=900) (by simp at u;omega) (by omega);refine Zi (congr (congrArg (fun a b=>WL k 0 262144 16 Xb es' E0 r.id.c r.id.op r.id.k r.a.g r.a.r r.a.p r.a.c r.a.v r.a.o r.a.h r.a.f r.a.l r.a.n r.a.u r.a.w r.s r.i r.e.id.c r.e.id.op r.e.id.k (Zd r.e.q) r.e.d.g r.e.d.t r.e.d.h r.e.d.j r.e.d.i r.e.d.f r.e.d.m o w' (Ze P) l (E0++f) 0 0 0 0 0 0 0 0 0 0 0 0 Xb 0 0 0 0 0 0 0 0 0 0 0 0 0 0 0 0 0 0 0 0 E0 0 0 0 0 0 0 Xb E0 E0 E0 E0 0 0 E0 E0 E0 E0 E0 E0 E0 E0 0 0 E0 E0 E0 E0 E0 E0 E0 E0 Xb 0 E0 E0 E0 E0 E0 E0 E0 E0 a b) G) J) ?_;rw [X9];exact m k (by simp;omega)
   ·have t:=O.2 hW;subst t;refine Zg (Zj (by simp;omega) (by decide)) (Zg (Zj (by simp;omega) (by decide)) ?_);have G:P1 .add .i64 j (Xg E0:Int)=j:=by rw [List.length_nil,JP (by omega) (by omega)];omega
    have J:P1 .add .i64 (i:Int) 1=((i+1:Nat):Int):=Jd (n:=900) (by simp at u;omega) (by omega);refine Zi (congr (congrArg (fun a b=>WL k 0 262144 16 Xb w E0 r.id.c r.id.op r.id.k r.a.g r.a.r r.a.p r.a.c r.a.v r.a.o r.a.h r.a.f r.a.l r.a.n r.a.u r.a.w r.s r.i r.e.id.c r.e.id.op r.e.id.k (Zd r.e.q) r.e.d.g r.e.d.t r.e.d.h r.e.d.j r.e.d.i r.e.d.f r.e.d.m v (Ze W) (Ze P) l (e++E0) 0 0 0 0 0 0 0 0 0 0 0 0 Xb 0 0 0 0 0 0 0 0 0 0 0 0 0 0 0 0 0 0 0 0 E0 0 0 0 0 0 0 Xb E0 E0 E0 E0 0 0 E0 E0 E0 E0 E0 E0 E0 E0 0 0 E0 E0 E0 E0 E0 E0 E0 E0 Xb 0 E0 E0 E0 E0 E0 E0 E0 E0 a b) G) J) ?_;rw [UG];refine ih (i+1) k e (fun y hy=>M y (UD _ hy)) (Ta.1 N).2 hW A (by omega) (by simp at u;omega) fun C aa=>?_;have:=m C (by simp;omega);rw [show i+1+W.length=i+(z::W).length by simp;omega];exact this
  refine Zi (ZeC ..) (Za (fun _=>Za (fun _=>Zi (JS (r:=mV K z 0 r.id 0 Xb D s) _ (Uk 0) rfl Y) (Zg (by decide) (Zg (by simp;omega) ?_))) fun h=>?_) fun h=>?_)
  ·rcases S with ⟨rfl,rfl⟩ | ⟨rfl,rfl⟩ | ⟨rfl,rfl⟩
   ·exact Za (fun h=>absurd h (show ¬ P0 .eql 6 2=Xc by decide)) fun _=>Za (fun h=>absurd h (show ¬ P0 .eql 6 4=Xc by decide)) fun _=>Za (fun _=>fin) fun h=>(h (by kernel_rfl)).elim
   ·exact Za (fun h=>absurd h (show ¬ P0 .eql 8 2=Xc by decide)) fun _=>Za (fun h=>absurd h (show ¬ P0 .eql 8 4=Xc by decide)) fun _=>Za (fun h=>absurd h (show ¬ P0 .eql 8 6=Xc by decide)) fun _=>Za (fun _=>fin) fun h=>(h (by kernel_rfl)).elim
   ·exact Za (fun h=>absurd h (show ¬ P0 .eql 10 2=Xc by decide)) fun _=>Za (fun h=>absurd h (show ¬ P0 .eql 10 4=Xc by decide)) fun _=>Za (fun h=>absurd h (show ¬ P0 .eql 10 6=Xc by decide)) fun _=>Za (fun h=>absurd h (show ¬ P0 .eql 10 8=Xc by decide)) fun _=>fin
  ·exfalso;simp only [CQ,XO] at h;omega
  ·exfalso;simp only [CQ] at h;simp at u;omega
def Zny:∀ (l:List Int) (a n:Int),l.Pairwise (· < ·)→(∀ z∈l,a≤z∧z < n)→(l.length:Int)≤max 0 (n-a)
 | [], a, n, _, _ => by simp; omega
 | z :: l, a, n, h, hz => by
  obtain ⟨c,d⟩:=Ta.1 h;have:=Zny l (z+1) n d fun y b=>⟨by have:=c y b;omega,(hz y (UD _ b)).2⟩;have:=hz z (UX ..);simp only [XO];omega
def ZsF {f:List Zk} {i:Id} (h:bl f i = []):(f.filter fun x=>!x.b.q.contains i)=f:=T3.2 fun e a=>by
 have:e∉bl f i:=by rw [h];exact List.not_mem_nil
 rw [XJ,UL];exact fun b=>this (Uu.2 ⟨a,b⟩)
def Kt {m:Mc} {r:Req} {e:Int} {f:List Zk} {rf:Int} (k:RqG r) {a pa b:LL} (h:g85 0 262144 16 Xb (m.l.map Zf) E0 r.id.c r.id.op r.id.k r.a.g r.a.r r.a.p r.a.c r.a.v r.a.o r.a.h r.a.f r.a.l r.a.n r.a.u r.a.w r.s r.i r.e.id.c r.e.id.op r.e.id.k (Zd r.e.q) r.e.d.g r.e.d.t r.e.d.h r.e.d.j r.e.d.i r.e.d.f r.e.d.m 0 E0 E0 E0=Xa ([mM 2 r.id.c 0 r.id e Xb a],oT (f.map Zf) E0 r 5 E0 pa b)):∃ (c d:LL) (j:Int) (w pa b:LL),g13 0 262144 16 Xb (m.l.map Zf) E0 0 0 0 0 0 0 0 0 0 0 0 0 0 0 0 0 0 0 0 0 E0 0 0 0 0 0 0 Xb 0 E0 E0 E0 r.id.c r.id.op r.id.k r.a.g r.a.r r.a.p r.a.c r.a.v r.a.o r.a.h r.a.f r.a.l r.a.n r.a.u r.a.w r.s r.i r.e.id.c r.e.id.op r.e.id.k (Zd r.e.q) r.e.d.g r.e.d.t r.e.d.h r.e.d.j r.e.d.i r.e.d.f r.e.d.m=Xa (c,oT d E0 r j w pa b)∧Ret (fun x=>∃ o a p g i,x=dV 2 r.id.c 0 r.id e o E0 a p Xc (oT (f.map Zf) E0 r 5 E0 g i)) (g12 0 262144 16 Xb d E0 r.id.c r.id.op r.id.k r.a.g r.a.r r.a.p r.a.c r.a.v r.a.o r.a.h r.a.f r.a.l r.a.n r.a.u r.a.w r.s r.i r.e.id.c r.e.id.op r.e.id.k (Zd r.e.q) r.e.d.g r.e.d.t r.e.d.h r.e.d.j r.e.d.i r.e.d.f r.e.d.m j w pa b c rf):=by
 refine ⟨_,_,_,_,_,_,ZzG (m.l.map Zf) r k h,?_⟩;rw [ZnD];exact Zi (ZnO (f.map Zf) E0 pa b r 5 r.id.c e Xb a rf 0 0 ZG (by decide) (by have:=Zam (n:=1000) (by decide);omega)) (Zc ⟨_,_,_,_,_,rfl⟩)
set_option maxHeartbeats 4000000 in
def Zbu {m:Mc} {j o:Nat} (h:WfM m j) (aa:j < o) (ho:o≤40) {k:Int} (hk:0≤k∧k < (m.ws.length:Int)) {c:Call} {r:Req} (Y:m.l.Pairwise fun a b=>lte a b=Xc) (ab:m.rs = [⟨262144,16,Xb⟩]) (hp:POk m k (o:Int) c r) {e:Int} {l':List Zk} (Q:Zoh m k o c e l') {rf:Int} (ao:e=0→rf=0):r.id=⟨k,(o:Int),0⟩∧∃ (ap aq:LL) (ph:Int) (w pa dm:LL),g13 0 262144 16 Xb (m.l.map Zf) E0 0 0 0 0 0 0 0 0 0 0 0 0 0 0 0 0 0 0 0 0 E0 0 0 0 0 0 0 Xb 0 E0 E0 E0 r.id.c r.id.op r.id.k r.a.g r.a.r r.a.p r.a.c r.a.v r.a.o r.a.h r.a.f r.a.l r.a.n r.a.u r.a.w r.s r.i r.e.id.c r.e.id.op r.e.id.k (Zd r.e.q) r.e.d.g r.e.d.t r.e.d.h r.e.d.j r.e.d.i r.e.d.f r.e.d.m=Xa (ap,oT aq E0 r ph w pa dm)∧Ret (fun x=>∃ st al cm ax ay,x=dV 2 r.id.c 0 r.id e st E0 al cm Xc (oT (l'.map Zf) E0 r 5 E0 ax ay)) (g12 0 262144 16 Xb aq E0 r.id.c r.id.op r.id.k r.a.g r.a.r r.a.p r.a.c r.a.v r.a.o r.a.h r.a.f r.a.l r.a.n r.a.u r.a.w r.s r.i r.e.id.c r.e.id.op r.e.id.k (Zd r.e.q) r.e.d.g r.e.d.t r.e.d.h r.e.d.j r.e.d.i r.e.d.f r.e.d.m ph w pa dm ap rf):=by
 have a9:=h.w4;have ba:=h.p1;have bb:m.l.length≤320:=by have:=h.len;omega
 have A:Kj m.l:=h.lok.few (by omega);have kt:k.toNat < m.ws.length:=by omega
 have ae:wOf m k=32∨wOf m k=39:=by
  have:wOf m k=m.ws[k.toNat]:=by simp [wOf,kt]
  rw [this];exact h.ww _ (XC kt)
 have af:∀ {b n:Int},0≤JY m.rs b n→JY m.rs b n=0:=by
  intro b n hg;have:=Zmn m.rs b n hg;rw [ab] at this;simp at this;rw [ab] at hg;rw [ab];omega
 have R:Kq ⟨k,(o:Int),0⟩=Xc:=by simp only [Kq,P5];omega
 have ag:∀ e∈m.l,e.b.id≠(⟨k,(o:Int),0⟩:Id):=fun e E J=>by
  have:=(h.lok.ent e E).op;rw [J] at this;simp only at this;omega
 rcases hp with ⟨k1,hb,hr,hg,Z,rfl⟩ | ⟨s,hw,hk6,hat,rfl,p2,p3,p4⟩
 ·refine ⟨rfl,?_⟩;have L:RqG ⟨⟨k,(o:Int),0⟩,c,JY m.rs c.l c.h,wOf m k,VH⟩:=⟨R,rfl,af hg,ae,.inl ⟨k1,rfl⟩⟩;generalize hre:(⟨⟨k,(o:Int),0⟩,c,JY m.rs c.l c.h,wOf m k,VH⟩:Req)=r at L;have f:r.a=c:=by rw [← hre]
  have g:r.id=⟨k,(o:Int),0⟩:=by rw [← hre]
  have az:inB 262144 16 r.a.l r.a.h=Xc:=by
   obtain ⟨x,u,a0⟩:=(ZiQ m.rs _ _).1 hg;rw [ab,XF] at u;subst u;rw [f];exact a0
  have G:=ZB8 m.l (by omega) E0 r 0 E0 E0 E0 (by rw [f];omega) (by rw [f];exact hr) az;rcases Q with ⟨_,Q⟩ | ⟨s,_,Q⟩
  ·rcases Q with ⟨y,rfl,rfl⟩ | ⟨y,rfl,rfl⟩
   ·rw [P4 (by rw [f];exact y)] at G;exact Kt L (ZAB (m.l.map Zf) E0 r 0 E0 E0 E0 (by rw [f];exact k1) G (ZuV m.l E0 r 0 E0 E0 E0 7 (by decide)))
   ·rw [P3 (by rw [f,y];decide)] at G;have S:clE r=⟨k,c.p,ZoZ k o c⟩:=by unfold clE ZoZ;rw [f,g]
    have T:ZfV m.l (clE r):=by rw [S];exact Yq h aa Z rfl
    have C:=Zsi m.l A E0 r 0 E0 E0 E0 [clE r] (by simp;omega) (fun x u=>by rw [XF.1 u];exact X7 _) (KR T);have:=Kt (rf:=rf) L (ZAB (m.l.map Zf) E0 r 0 E0 E0 E0 (by rw [f];exact k1) G C);rw [show Jm m.l [clE r]=Va m.l ⟨k,c.p,ZoZ k o c⟩ by rw [← S];rfl] at this;exact this
  ·exfalso;rcases Q with ⟨h0,_⟩ | ⟨h0,_⟩ | ⟨h0,_⟩ | ⟨h0,_⟩ | ⟨h0,_⟩ <;> omega
 ·refine ⟨rfl,?_⟩;have ah:=UE hat;have E:=h.lok.ent s ah;have am:=List.find?_some hat;simp only [plE,Xk,P5] at am;have bc:=Z4 E.ok;have L:RqG ⟨⟨k,(o:Int),0⟩,c,JY m.rs s.b.d.t s.b.d.h,wOf m k,s.b⟩:=⟨R,rfl,af E.rg,ae,.inr ⟨hk6.1,hk6.2,E.ok⟩⟩;rcases Q with ⟨h0,_⟩ | ⟨s',hat',Q⟩
  ·omega
  obtain rfl:s'=s:=by rw [hat] at hat';cases hat';rfl
  obtain ⟨q,hq,rfl⟩:=Ud.1 ah;generalize hre:(⟨⟨k,(o:Int),0⟩,c,JY m.rs m.l[q].b.d.t m.l[q].b.d.h,wOf m k,m.l[q].b⟩:Req)=r at L;have f:r.a=c:=by rw [← hre]
  have g:r.id=⟨k,(o:Int),0⟩:=by rw [← hre]
  have ar:r.i=wOf m k:=by rw [← hre]
  have a1:r.e=m.l[q].b:=by rw [← hre]
  have h1:r.e.id=m.l[q].b.id:=by rw [a1]
  have h2:r.id.c=m.l[q].c:=by rw [g];exact am.1.symm
  have h3:r.a.r=m.l[q].r:=by rw [f];exact am.2.symm
  have J:Kq r.id=Xc:=by rw [g];exact R
  have ac:r.id.k=0:=by rw [g]
  have ai:∀ t:Int,(⟨k,(o:Int),t⟩:Id)≠m.l[q].b.id:=fun t Z=>by
   have:=E.op;rw [← Z] at this;simp only at this;omega
  have aj:∀ t:Int,(⟨k,(o:Int),t⟩:Id)∉m.l[q].b.q:=fun t Z=>by
   have:=E.pa _ Z;simp only at this;omega
  have h4:r.id≠m.l[q].b.id:=by rw [g];exact ai 0
  have h5:r.id∉m.l[q].b.q:=by rw [g];exact aj 0
  have bd:0≤c.r∧c.r < m.p:=hw.1;rcases Q with ⟨hkd,cs,hcs,S,hca,Q⟩ | ⟨hkd,rfl,rfl⟩ | ⟨hkd,Q⟩ | ⟨hkd,rfl,rfl⟩ | ⟨hkd,rfl,rfl⟩
  ·obtain ⟨d1,d2,d3,d4⟩:=hw.2.1 hkd;obtain ⟨v,Z,M⟩:=p2 hkd;have D:=ZAU m.l (by omega) Y q hq E0 r 0 E0 E0 E0 h1 h2 h3 E.ok (by rw [f];omega) (fun t Z=>by rw [g];exact ⟨by simp only [Kq,P5];omega,ai t,aj t⟩) M (by rw [f,ar];exact v) cs (by rw [f,ar];exact hcs) (by rw [f];exact S) (fun x u=>(hca x u).1);rcases Q with ⟨y,rfl,rfl⟩ | ⟨y,rfl,rfl⟩
   ·rw [P4 y] at D;exact Kt L (ZAz (m.l.map Zf) E0 r 0 E0 E0 E0 (by rw [f];exact hkd) D (ZuV m.l E0 r 0 E0 E0 E0 7 (by decide)))
   ·rw [P3 (by rw [y];decide)] at D;have a2:JE r.id.c r.a.p (Zeq m.l[q].b r.id cs)=JE k c.p (ZeM m.l[q].b k o cs):=by rw [f,g];rfl
    have a3:tkB m.l k c.p (cs.length:Int)=Xb:=by rw [S,show ((c.n.toNat:Nat):Int)=c.n by omega];exact Z
    rw [a2] at D;have ak:(JE k c.p (ZeM m.l[q].b k o cs)).length=cs.length:=by rw [YC,YE]
    have C:=Zsi m.l A E0 r 0 E0 E0 E0 (JE k c.p (ZeM m.l[q].b k o cs)) (by rw [ak];omega) (fun x u=>by
     obtain ⟨i,J,rfl⟩:=Ud.1 u;rw [ak] at J;rw [ZaU _ _ _ (by rw [YE];exact J),Zey _ _ _ _ J];simp [Ji];omega) (WK h aa m.l[q].b cs a3)
    exact Kt L (ZAz (m.l.map Zf) E0 r 0 E0 E0 E0 (by rw [f];exact hkd) D C)
  ·obtain ⟨hd,_⟩:=hw.2.2.1 hkd;obtain ⟨Z,M⟩:=p3 hkd;have au:=ZxB m.l (by omega) Y q hq E0 r 0 E0 E0 E0 h1 h2 h3 E.ok J h4 h5 (by rw [f];omega) r.id.c M;have u:KW r m.l[q].b r.id.c=⟨k,c.p,Ze7 m.l[q].b k o c.v⟩:=by unfold KW Ze7 Zxl;rw [f,g]
   have T:ZfV m.l (KW r m.l[q].b r.id.c):=by rw [u];exact Yq h aa Z rfl
   have C:=Zsi m.l A E0 r 0 E0 E0 E0 [KW r m.l[q].b r.id.c] (by simp;omega) (fun x u=>by rw [XF.1 u];simp [KW,Ji];omega) (KR T);have:=Kt (rf:=rf) L (ZBL (m.l.map Zf) E0 r 0 E0 E0 E0 (by rw [f];exact hkd) au C);rw [show Jm m.l [KW r m.l[q].b r.id.c]=Va m.l ⟨k,c.p,Ze7 m.l[q].b k o c.v⟩ by rw [← u];rfl] at this;exact this
  ·obtain ⟨hd,_,⟨d3,d4⟩,_⟩:=hw.2.2.2 hkd;obtain ⟨_,_,M,q4,q5⟩:=p4 hkd;have u:KW r m.l[q].b r.a.c=⟨c.c,c.p,Ze7 m.l[q].b k o c.v⟩:=by unfold KW Ze7 Zxl;rw [f,g]
   rcases Q with ⟨htk,rfl,rfl⟩ | ⟨htk,rfl,rfl⟩
   ·have a4:=Zuj htk;have U:=ZxN m.l (by omega) Y q hq E0 r 0 E0 E0 E0 h1 h2 h3 E.ok J h4 h5 (by rw [f];omega) (by rw [f];omega) M (by rw [g];exact ag) (by rw [f];exact a4);exact Kt L (Zz3 (m.l.map Zf) E0 r (by rw [f];exact hkd) 0 E0 E0 E0 U)
   ·have T:ZfV m.l ⟨c.c,c.p,Ze7 m.l[q].b k o c.v⟩:=Yq h aa htk rfl;have U:=Zy0 m.l (by omega) Y q hq E0 r 0 E0 E0 E0 h1 h2 h3 A E.ok J h4 h5 (by rw [f];omega) (by rw [f];omega) M (by rw [g];exact ag) (by rw [f];exact T.2);have N:=Zz3 (m.l.map Zf) E0 r (by rw [f];exact hkd) 0 E0 E0 E0 U;rw [u] at N;refine ⟨_,_,_,_,_,_,ZzG (m.l.map Zf) r L N,?_⟩;rw [ZnD,ao rfl];exact Zi (Zwk ((Va m.l ⟨c.c,c.p,Ze7 m.l[q].b k o c.v⟩).map Zf) [[I r.a.c]] E0 E0 r J ac (by rw [f];omega) _) (Zc ⟨_,_,_,_,_,rfl⟩)
  ·exact Kt L (ZBW m.l A (by omega) Y q hq E0 r 0 E0 E0 E0 h1 h2 h3 (by rw [f];exact hkd))
  ·have y:∀ e∈m.l,0≤e.c∧e.c < 32:=fun e E=>by have:=(h.lok.ent e E).c0;have:=(h.lok.ent e E).c1;omega
   have av:0≤r.id.c∧r.id.c < 32:=by rw [g];exact ⟨hk.1,by show k < 32;omega⟩
   by_cases hbn:bl m.l m.l[q].b.id = []
   ·obtain ⟨x,N,rfl⟩:Ret (fun x=>x=(([mM 2 r.id.c 0 r.id 0 Xb E0],oT (m.l.map Zf) E0 r 5 E0 E0 E0):Qt14)) (g85 0 262144 16 Xb (m.l.map Zf) E0 r.id.c r.id.op r.id.k r.a.g r.a.r r.a.p r.a.c r.a.v r.a.o r.a.h r.a.f r.a.l r.a.n r.a.u r.a.w r.s r.i r.e.id.c r.e.id.op r.e.id.k (Zd r.e.q) r.e.d.g r.e.d.t r.e.d.h r.e.d.j r.e.d.i r.e.d.f r.e.d.m 0 E0 E0 E0):=ZAg m.l (by omega) Y q hq E0 r 0 E0 E0 E0 h1 h2 h3 (by rw [f];exact hkd) ⟨_,ZyK m.l A (by omega) m.l[q].b E0 r 0 E0 E0 E0 hbn,rfl⟩;rw [ZsF hbn];exact Kt L N
   ·obtain ⟨x,N,hh,rfl⟩:Ret _ (g85 0 262144 16 Xb (m.l.map Zf) E0 r.id.c r.id.op r.id.k r.a.g r.a.r r.a.p r.a.c r.a.v r.a.o r.a.h r.a.f r.a.l r.a.n r.a.u r.a.w r.s r.i r.e.id.c r.e.id.op r.e.id.k (Zd r.e.q) r.e.d.g r.e.d.t r.e.d.h r.e.d.j r.e.d.i r.e.d.f r.e.d.m 0 E0 E0 E0):=ZAg m.l (by omega) Y q hq E0 r 0 E0 E0 E0 h1 h2 h3 (by rw [f];exact hkd) (ZB6 m.l A (by omega) y m.l[q].b E0 r av 0 E0 E0 E0 hbn);refine ⟨_,_,_,_,_,_,ZzG (m.l.map Zf) r L N,?_⟩;rw [ZnD,ao rfl];have aw:=Zg3 (bl m.l m.l[q].b.id) [r.id.c];have O:=ZcP (bl m.l m.l[q].b.id) [r.id.c] (Ty _ _)
    have an:∀ z∈(YI (bl m.l m.l[q].b.id) r.id.c),0≤z∧z < (m.ws.length:Int):=fun z v=>by
     rcases (aw z).1 v with v | ⟨x,u,rfl⟩
     ·rw [XF.1 v,g];exact hk
     ·have hE:=h.lok.ent x (Uu.1 u).1;exact ⟨hE.c0,hE.c1⟩
    have ad:(YI (bl m.l m.l[q].b.id) r.id.c)≠[]:=fun h0=>by
     have:=(aw r.id.c).2 (.inl (XF.2 rfl));unfold YI at h0;rw [h0] at this
     cases this
    have a5:Xg (YI (bl m.l m.l[q].b.id) r.id.c)≤4:=by
     have:=Zny (YI (bl m.l m.l[q].b.id) r.id.c) 0 (m.ws.length:Int) O an;omega
    have H:∀ z∈(YI (bl m.l m.l[q].b.id) r.id.c),0≤z∧z < 32:=fun z v=>by have:=an z v;omega
    have hd:∀ d∈Yh (bl m.l m.l[q].b.id),∃ x∈m.l,x.b.id=d:=fun d hd=>by
     obtain ⟨x,u,rfl⟩:=Xs.1 hd;exact ⟨x,(Uu.1 u).1,rfl⟩
    have a6:=Zo8 Y m.l[q].b.id;have a7:(Yh (bl m.l m.l[q].b.id)).length < 900:=by unfold Yh;rw [Xi];exact Nat.lt_of_le_of_lt (U9 _ _) (by omega)
    have a8:=ZnZ Y m.l[q].b.id;generalize hPP:(YI (bl m.l m.l[q].b.id) r.id.c)=P at an ad a5 H O;have O:P.Pairwise (· < ·):=by rw [← hPP];exact ZcP (bl m.l m.l[q].b.id) [r.id.c] (Ty _ _)
    have hF:=Zam (n:=1000) (by decide);rw [← a8];refine Zhp 6 7 2 3 (.inl ⟨rfl,rfl⟩) r P (m.l.map Zf) (m.l.map Zf) (Zd (Yh (bl m.l m.l[q].b.id))) (P.map (fun z=>mM 8 z 0 r.id 0 Xb E0)) (Ze P) E0 0 (by decide) (by decide) (by simp;omega) (fun z W v hW X=>ZtQ (m.l.map Zf) (H z v) W P (by omega) hW X r J ac (Zd (Yh (bl m.l m.l[q].b.id)))) P 0 ZG _ (fun z v=>v) O ad (Zx7 ..) (by omega) (by omega) fun k1 be=>?_;refine Zhp 8 9 3 4 (.inr (.inl ⟨rfl,rfl⟩)) r P (m.l.map Zf) ((left m.l (Yh (bl m.l m.l[q].b.id))).map Zf) (Zd (Yh (bl m.l m.l[q].b.id))) (P.map (fun z=>mM 10 z 0 r.id 0 Xb E0)) (Ze P) [[I r.id.c,I r.id.op,I r.id.k,B Xc]] _ (by simp) (by simp) (by simp;omega) (fun z W v hW X=>Zux m.l A Y (by omega) (H z v) W P (by omega) hW X r J ac _ hd a6 a7) P (0+P.length) k1 _ (fun z v=>v) O ad (ZvB ..) (by omega) (by omega) fun k2 bf=>?_;refine Zhp 10 11 4 5 (.inr (.inr ⟨rfl,rfl⟩)) r P ((left m.l (Yh (bl m.l m.l[q].b.id))).map Zf) ((left m.l (Yh (bl m.l m.l[q].b.id))).map Zf) (Zd (Yh (bl m.l m.l[q].b.id))) [mM 2 r.id.c 0 r.id 0 Xc E0] E0 E0 _ (by simp) (by simp) (by simp) (fun z W v hW X=>ZuM ((left m.l (Yh (bl m.l m.l[q].b.id))).map Zf) (H z v) W P (by omega) hW X r J ac (Zd (Yh (bl m.l m.l[q].b.id)))) P (0+P.length+P.length) k2 _ (fun z v=>v) O ad (ZvB ..) (by omega) (by omega) fun k3 bg=>?_;exact Zi (ZnO ((left m.l (Yh (bl m.l m.l[q].b.id))).map Zf) E0 (Ze P) (Zd (Yh (bl m.l m.l[q].b.id))) r 5 r.id.c 0 Xc E0 0 _ (0+P.length+P.length+P.length) k3 (by omega) (by omega)) (Zc ⟨_,_,_,_,_,rfl⟩)
def Zen {l:List Zk} {x:Zk} (d:l.Pairwise fun a b=>lte a b=Xc) (c:ZfV l x):(Va l x).Pairwise fun a b=>lte a b=Xc:=Zn4 d (ZnY l x c.1 c.2)
def ZdN:∀ {xs l:List Zk},(l.Pairwise fun a b=>lte a b=Xc)→Kw l xs→(Jm l xs).Pairwise fun a b=>lte a b=Xc
 | [], l, ha, _ => ha
 | x :: xs, l, ha, hf => by
  show (Jm (Va l x) xs).Pairwise _;exact ZdN (Zen ha (hf.1 x (UX ..))) hf.tail
def ZoV {m:Mc} {j o:Nat} (h:WfM m j) (d:j < o) {k:Int} {c:Call} {r:Req} (f:m.l.Pairwise fun a b=>lte a b=Xc) (g:POk m k (o:Int) c r) {e:Int} {i:List Zk} (n:Zoh m k o c e i):i.Pairwise fun a b=>lte a b=Xc:=by
 rcases n with ⟨k1,⟨_,_,rfl⟩ | ⟨_,_,rfl⟩⟩ | ⟨s,hat,⟨hkd,cs,hcs,hcl,hca,⟨_,_,rfl⟩ | ⟨_,_,rfl⟩⟩ | ⟨hkd,rfl,rfl⟩ | ⟨hkd,⟨_,_,rfl⟩ | ⟨htk,_,rfl⟩⟩ | ⟨hkd,rfl,rfl⟩ | ⟨hkd,rfl,rfl⟩⟩
 ·exact f
 ·rcases g with ⟨_,_,_,_,ht,_⟩ | ⟨s,_,h2,_⟩
  ·exact Zen f (Yq h d ht rfl)
  ·omega
 ·exact f
 ·rcases g with ⟨h1,_⟩ | ⟨s',hw,_,hat',_,p2,_⟩
  ·omega
  ·obtain ⟨p,d2,_⟩:=hw.2.1 hkd;refine ZdN f (WK h d s.b cs ?_);rw [hcl,show ((c.n.toNat:Nat):Int)=c.n by omega];exact (p2 hkd).2.1
 ·rcases g with ⟨h1,_⟩ | ⟨s',_,_,_,_,_,p3,_⟩
  ·omega
  ·exact Zen f (Yq h d (p3 hkd).1 rfl)
 ·exact f
 ·exact Zen f (Yq h d htk rfl)
 ·exact f.sublist Tz
 ·exact f.sublist Tz
def Zyz (b:LL):g17 0 262144 16 Xb b E0 0 0 0 0 0 0 0 0 0 0 0 0 0 0 0 0 0 0 0 0 E0 0 0 0 0 0 0 Xb 0 E0 E0 E0=Xa (0,0,0,0,0,0,0,0,0,0,0,0,0,0,0,0,0,0,0,0,E0,0,0,0,0,0,0,Xb,0,iT b):=by
 rw [Zuo];have a:=s42 Zfi (by decide);exact (congrArg (fun o=>Option.bind o _) a).trans rfl
def ZnE (a pa c:LL) (r:Req) (d:Kq r.id=Xc) (b:r.id.k=0) (e:0≤r.id.c∧r.id.c < 32) (f:Int) (g:f=r.id.c):g16 0 262144 16 Xb a E0 r.id.c r.id.op r.id.k r.a.g r.a.r r.a.p r.a.c r.a.v r.a.o r.a.h r.a.f r.a.l r.a.n r.a.u r.a.w r.s r.i r.e.id.c r.e.id.op r.e.id.k (Zd r.e.q) r.e.d.g r.e.d.t r.e.d.h r.e.d.j r.e.d.i r.e.d.f r.e.d.m 5 E0 pa c 3 0 f 0 0 0 0 r.id.c r.id.op r.id.k 0 Xb 0 0 0 0 0 0 0 0 0 0 0 0 0 0 0 0 0 0 0 0 E0 0 0 0 0 0 0 Xb E0 E0 E0 E0 0 0 E0 E0 E0 E0 E0 E0 E0 E0 0 0 E0 E0 E0 E0 E0 E0 E0 E0 Xb 0 E0 E0 E0 E0 E0 E0 E0 E0=Xa (E0,E0,iT a):=by
 subst g;exact Ztr a pa c r d b e
set_option maxHeartbeats 8000000 in
def ZAW {P:Bool→Prop} (A:List V→Option Bool) (x0 x5:LL) (x2 x3:Int) (m:Mc) {i:Nat} (h:WfM m i) (hi:i < 40) (J:m.l.Pairwise fun a b=>lte a b=Xc) (k:Int) (L:0≤k∧k < (m.ws.length:Int)) (c:Call) (ag:c.n≤1000) (ah:1≤c.g) (ws:List Int) (rs:List Reg) (e1:m.ws=ws) (e3:m.rs=rs) (p:Int) (e2:m.p=p) (C:rs = [⟨262144,16,Xb⟩])
  (v:∀ m':Mc,WfM m' (i+1)→(m'.l.Pairwise fun a b=>lte a b=Xc)→m'.rs=m.rs→m'.ws=m.ws→m'.p=m.p→Ret P (A [.l x0,.l (Ze ws),.i x2,.i x3,.l (rs.map JQ),.l x5,.i ((i+1:Nat):Int),.l (Ze m'.ws),.i m'.st,.i m'.p,.l (m'.rs.map JQ),.l m'.os,.l (m'.l.map Zf),.l m'.tabs,.l m'.mem,.l m'.been,.l (m'.cr.map crc),.i 0,.i 262144,.i 16,.b Xb,.l (m'.l.map Zf),.l E0,.i 0,.i 0,.i 0,.i 0,.i 0,.i 0,.i 0,.i 0,.i 0,.i 0,.i 0,.i 0,.i 0,.i 0,.i 0,.i 0,.i 0,.i 0,.i 0,.i 0,.l E0,.i 0,.i 0,.i 0,.i 0,.i 0,.i 0,.b Xb,.i 0,.l E0,.l E0,.l E0])) :
  Ret P (Zs5 A ZG x0 (Ze ws) x2 x3 (rs.map JQ) x5 (i:Int) k c.g c.r c.p c.c c.v c.o c.h c.f c.l c.n c.u c.w (Xv p.toNat [I 0,I 0,I 0,AV.slice Xb 3 E0,I 0,I 0,I 0,I 0,I 0,I 0,B Xb,I 0,I 0,I 0,I 0]) (m.l.map Zf) 0 (Ze m.ws) m.st m.p (m.rs.map JQ) m.os (m.l.map Zf) m.tabs m.mem m.been (m.cr.map crc) 0 262144 16 Xb (m.l.map Zf) E0 0 0 0 0 0 0 0 0 0 0 0 0 0 0 0 0 0 0 0 0 E0 0 0 0 0 0 0 Xb 0 E0 E0 E0):=by
 subst e1 e2 e3;have U:m.l.length < 1000:=by have:=h.len;omega
 have an:m.l.length≤320:=by have:=h.len;omega
 have ao:=h.w4;have ap:=h.w1;have aq:=h.p0;have ar:=h.p1;have kt:k.toNat < m.ws.length:=by omega
 have ai:wOf m k=m.ws[k.toNat]:=by simp [wOf,kt]
 have W:ZuL (Vj m.l k m.p.toNat):=by
  refine ⟨by rw [Zjt];omega,fun s hs=>?_⟩;obtain ⟨i,_,rfl⟩:=Xs.1 hs;unfold YK
  cases J:atE m.l k (i:Int) with
  | none => exact X7 _
  | some e => have := (Z4 (h.lok.ent e (UE J)).ok).2.2.1; show e.b.q.length ≤ 20; omega
 refine Zo (F:=fun q (s:LL) z=>Zs5 A q x0 (Ze m.ws) x2 x3 (m.rs.map JQ) x5 (i:Int) k c.g c.r c.p c.c c.v c.o c.h c.f c.l c.n c.u c.w s (m.l.map Zf) z (Ze m.ws) m.st m.p (m.rs.map JQ) m.os (m.l.map Zf) m.tabs m.mem m.been (m.cr.map crc) 0 262144 16 Xb (m.l.map Zf) E0 0 0 0 0 0 0 0 0 0 0 0 0 0 0 0 0 0 0 0 0 E0 0 0 0 0 0 0 Xb 0 E0 E0 E0) m.l.length (fun t s=>s=(Vj (m.l.take t) k m.p.toNat).map VG) U ?_ (Xv m.p.toNat [I 0,I 0,I 0,AV.slice Xb 3 E0,I 0,I 0,I 0,I 0,I 0,I 0,B Xb,I 0,I 0,I 0,I 0]) (by rw [Zj1 k];simp);rintro q t s ht rfl nx;refine Zi (Zrz ..) (Za (fun X=>?_) fun aj=>?_)
 ·simp only [CQ,Xi] at X;have O:t < m.l.length:=UM.1 X;have hE:=h.lok.ent _ (XC O);have M:=Zre h.lok O k m.p.toNat;have Y:(Xg ((Vj (m.l.take t) k m.p.toNat).map VG):Int)=m.p:=by rw [Xi,Zjt];omega
  rw [Jd ht U];refine Zi (Zz O _) (Za (fun hc=>?_) fun hc=>?_)
  ·have Q:m.l[t].c=k:=Ju hc;rw [P4 Q] at M;have Z:m.l[t].r < (Xg ((Vj (m.l.take t) k m.p.toNat).map VG):Int):=by rw [Y];exact hE.s1
   refine Zi (Zz O _) (Zi (Zz O _) (Zg hE.s0 (Zg Z (Zg hE.s0 (Zg Z ?_)))));refine nx O _ ?_;rw [← M];exact ZgV VG (fun s=>{ s with b:=m.l[t].b }) (Vj (m.l.take t) k m.p.toNat) m.l[t].r.toNat 0 (Wd m.l[t].b) fun x _=>rfl
  ·have Q:¬ m.l[t].c=k:=Jv hc;rw [P3 Q] at M;exact nx O _ (by rw [M])
 ·simp only [CQ,Xi] at aj;have ak:t=m.l.length:=by omega
  subst ak;rw [List.take_length];have ei:P1 .add .i64 (i:Int) 1=((i+1:Nat):Int):=Jd (n:=900) (by omega) (by omega);rw [ei];refine YP L.1 kt ?_;rw [← ai];refine Zb (s10 m h.mem (by omega)) ?_;have hP:=s9 k ((i+1:Nat):Int) (wOf m k) (Vj m.l k m.p.toNat) m.rs ((XK m.ws.length).map fun (i:Nat)=>(i:Int)) c W (by have:=h.r3;omega) (by simp;omega) ag;refine Zb hP ?_;have hD:=s11 m h (Ul i) (by omega) k L c;have aa:1≤((i+1:Nat):Int)∧((i+1:Nat):Int)≤1073741824:=by omega
  by_cases h0:(Zcp k ((i+1:Nat):Int) (wOf m k) (Vj m.l k m.p.toNat) m.rs ((XK m.ws.length).map fun (i:Nat)=>(i:Int)) c).2.2=0
  ·have g:=Zoa h aa L h0;have ab:c.g≤6:=by rcases g with ⟨h1,_⟩ | ⟨s,_,h1,_⟩ <;> omega
   generalize Zcp k ((i+1:Nat):Int) (wOf m k) (Vj m.l k m.p.toNat) m.rs ((XK m.ws.length).map fun (i:Nat)=>(i:Int)) c=pf at h0 g ⊢;refine Zh (ZrE hD (ZA9 m h (Ul i) (by omega) k L c J C g)) fun rr R=>?_;obtain ⟨⟨e,a1,a2,a3,a4,a5,a6,a7,a8,m',rfl,⟨f1,f2,f3,w'⟩,fl,q1,q2⟩,⟨e',b1,b2,b3,b4,b5,b6,b7,b8,m2,ac,y⟩⟩:=R;simp only [Xw] at ac;obtain ⟨rfl,rfl,rfl,rfl,rfl,rfl,rfl,rfl,rfl,al⟩:=ac;have N:m'.l=m2.l:=ZBD (m:=m') (m':=m2) (by simp only [mT,Xw];exact al);rw [← N] at y;have u:=ZoV h (Ul i) J g y;have au:m'.l.length≤8*(i+1):=w'.len;have d:Kj m'.l:=w'.lok.few (by omega);have D:pf.1.id=⟨k,((i+1:Nat):Int),0⟩:=(Zbu h (Ul i) (by omega) L J C g y (rf:=0) fun _=>rfl).1;have f:pf.1.id.c=k:=by rw [D]
   have E:Kq pf.1.id=Xc:=by rw [D];simp only [Kq,P5];omega
   have S:pf.1.id.k=0:=by rw [D]
   refine Za (fun T=>absurd h0 (ZcM T)) fun _=>?_;refine Za (fun am=>Za (fun ad=>?_) fun ad=>?_) fun am=>?_
   ·obtain ⟨_,ae,af,ph,w,pa,dm,G,j⟩:=Zbu h (Ul i) (by omega) L J C g y (rf:=3) (fun hz=>by have h3:e=3:=Ju ad;omega);refine Zb G (Zh j fun x hx=>?_);obtain ⟨st,H,cm,o,r,rfl⟩:=hx;refine Za (fun h=>absurd h (show ¬ (!true)=Xc by decide)) fun _=>Za (fun h=>absurd rfl (ZcM h)) fun _=>Za (fun h=>absurd f (ZcM h)) fun _=>Za (fun h=>?_) fun _=>Zb (s15 m'.l d (by omega) E0 pf.1 5 E0 o r) (Zb (s8 m' d) (Zb (s14 m'.l d (by omega)) (Za (fun h=>by cases h) fun _=>Zb (ZnE (m'.l.map Zf) o r pf.1 E S (by rw [f];omega) k f.symm) (Zb (Zyz (m'.l.map Zf)) (Za (fun h=>absurd h (show ¬ P0 .neq (Xg E0:Int) 0=Xc by decide)) fun _=>Za (fun h=>absurd h (show ¬ P0 .neq 0 0=Xc by decide)) fun _=>v m' w' u f3 f1 f2)))));have h':(!((P0 .eql pf.1.id.c pf.1.id.c)&&((P0 .eql pf.1.id.op pf.1.id.op)&&((P0 .eql pf.1.id.k pf.1.id.k)&&Xc))))=Xc:=h;simp [CQ] at h'
   ·obtain ⟨_,ae,af,ph,w,pa,dm,G,j⟩:=Zbu h (Ul i) (by omega) L J C g y (rf:=0) (fun _=>rfl);refine Zb G (Zh j fun x hx=>?_);obtain ⟨st,H,cm,o,r,rfl⟩:=hx;refine Za (fun h=>absurd h (show ¬ (!true)=Xc by decide)) fun _=>Za (fun h=>absurd rfl (ZcM h)) fun _=>Za (fun h=>absurd f (ZcM h)) fun _=>Za (fun h=>?_) fun _=>Zb (s15 m'.l d (by omega) E0 pf.1 5 E0 o r) (Zb (s8 m' d) (Zb (s14 m'.l d (by omega)) (Za (fun h=>by cases h) fun _=>Zb (ZnE (m'.l.map Zf) o r pf.1 E S (by rw [f];omega) k f.symm) (Zb (Zyz (m'.l.map Zf)) (Za (fun h=>absurd h (show ¬ P0 .neq (Xg E0:Int) 0=Xc by decide)) fun _=>Za (fun h=>absurd h (show ¬ P0 .neq 0 0=Xc by decide)) fun _=>v m' w' u f3 f1 f2)))));have h':(!((P0 .eql pf.1.id.c pf.1.id.c)&&((P0 .eql pf.1.id.op pf.1.id.op)&&((P0 .eql pf.1.id.k pf.1.id.k)&&Xc))))=Xc:=h;simp [CQ] at h'
   ·obtain ⟨_,ae,af,ph,w,pa,dm,G,j⟩:=Zbu h (Ul i) (by omega) L J C g y (rf:=0) (fun _=>rfl);refine Zb G (Zh j fun x hx=>?_);obtain ⟨st,H,cm,o,r,rfl⟩:=hx;refine Za (fun h=>absurd h (show ¬ (!true)=Xc by decide)) fun _=>Za (fun h=>absurd rfl (ZcM h)) fun _=>Za (fun h=>absurd f (ZcM h)) fun _=>Za (fun h=>?_) fun _=>Zb (s15 m'.l d (by omega) E0 pf.1 5 E0 o r) (Zb (s8 m' d) (Zb (s14 m'.l d (by omega)) (Za (fun h=>by cases h) fun _=>Zb (ZnE (m'.l.map Zf) o r pf.1 E S (by rw [f];omega) k f.symm) (Zb (Zyz (m'.l.map Zf)) (Za (fun h=>absurd h (show ¬ P0 .neq (Xg E0:Int) 0=Xc by decide)) fun _=>Za (fun h=>absurd h (show ¬ P0 .neq 0 0=Xc by decide)) fun _=>v m' w' u f3 f1 f2)))));have h':(!((P0 .eql pf.1.id.c pf.1.id.c)&&((P0 .eql pf.1.id.op pf.1.id.op)&&((P0 .eql pf.1.id.k pf.1.id.k)&&Xc))))=Xc:=h;simp [CQ] at h'
  ·refine Zh hD fun rr R=>?_;obtain ⟨e,a1,a2,a3,a4,a5,a6,a7,a8,m',rfl,⟨f1,f2,f3,w'⟩,fl,q1,q2⟩:=R
   have N:m'.l=m.l:=by
    by_cases ab:c.g≤6
    ·refine fl (.inl ?_);rw [(Zzw h aa L ah ab q1 q2 rfl).1 h0];exact h0
    ·exact fl (.inr (by omega))
   refine Za (fun _=>?_) fun T=>absurd (Zqn h0) T;have:=v m' w' (by rw [N];exact J) f3 f1 f2;rw [← N];exact this
def s3 (d:List Sp):g3 (d.map spc)=Xa Xc:=by
 have n:g18=Xa Xc:=by kernel_rfl
 have Q:g5 0 262144 16 Xb E0=Xa (iT E0):=by kernel_rfl
 have v:Ret (fun r=>r=Xc) (g3 (d.map spc)):=by
  rw [Zzi];refine Zh (s4w [32,39,32] 10 [⟨262144,16,Xb⟩] [0] (by decide) (by decide) rfl (by decide) (by decide) (fun i E=>?_) (by decide)) fun r0 w=>?_
  ·have R:i=0:=by simp at E;omega
   subst R;show (262144:Int)=(((0:Nat):Int)+1)*262144∧(15:Int)≤16∧(16:Int)≤17;decide
  obtain ⟨m,rfl,S,T,U,G⟩:=w;have g:m.l = []:=Uh (by have:=G.len;omega);refine Zi (Kl (l:=[⟨262144,16,Xb⟩]) (i:=0) (by decide) _) (Zb Q ?_)
  have W:Zfg 10 136:=by
   unfold Zfg Jr;decide
  have h:∀ x:LL,(mT m).2.2.2.2.2.1=x→Ret (fun r=>r=Xc) (Ztj ZG (d.map spc) (Ze [32,39,32]) 3 10 ([⟨262144,16,Xb⟩].map JQ) (Ze [0]) 0 (mT m).1 (mT m).2.1 (mT m).2.2.1 (mT m).2.2.2.1 (mT m).2.2.2.2.1 (mT m).2.2.2.2.2.1 (mT m).2.2.2.2.2.2.1 (mT m).2.2.2.2.2.2.2.1 (mT m).2.2.2.2.2.2.2.2.1 (mT m).2.2.2.2.2.2.2.2.2 0 262144 16 Xb x E0 0 0 0 0 0 0 0 0 0 0 0 0 0 0 0 0 0 0 0 0 E0 0 0 0 0 0 0 Xb 0 E0 E0 E0):=by
   rintro x rfl
   have o:∀ (q i:Nat) (s:LL×Int×Int×LL×LL×LL×LL×LL×LL×LL),i≤min 40 d.length→(∃ m',s=mT m'∧m'.ws = [32,39,32]∧m'.p=10∧m'.rs = [⟨262144,16,Xb⟩]∧WfM m' i∧m'.l.Pairwise fun a b=>lte a b=Xc)→(i < min 40 d.length→∀ f:LL×Int×Int×LL×LL×LL×LL×LL×LL×LL,(∃ m',f=mT m'∧m'.ws = [32,39,32]∧m'.p=10∧m'.rs = [⟨262144,16,Xb⟩]∧WfM m' (i+1)∧m'.l.Pairwise fun a b=>lte a b=Xc)→Ret (fun r=>r=Xc) (Ztj q (d.map spc) (Ze [32,39,32]) 3 10 ([⟨262144,16,Xb⟩].map JQ) (Ze [0]) ((i+1:Nat):Int) f.1 f.2.1 f.2.2.1 f.2.2.2.1 (d4 f).1 (d4 f).2.1 (d6 f).1 (d6 f).2.1 (d8 f).1 f.2.2.2.2.2.2.2.2.2 0 262144 16 Xb (d4 f).2.1 E0 0 0 0 0 0 0 0 0 0 0 0 0 0 0 0 0 0 0 0 0 E0 0 0 0 0 0 0 Xb 0 E0 E0 E0))→Ret (fun r=>r=Xc) (Ztj (q+1) (d.map spc) (Ze [32,39,32]) 3 10 ([⟨262144,16,Xb⟩].map JQ) (Ze [0]) (i:Int) s.1 s.2.1 s.2.2.1 s.2.2.2.1 (d4 s).1 (d4 s).2.1 (d6 s).1 (d6 s).2.1 (d8 s).1 s.2.2.2.2.2.2.2.2.2 0 262144 16 Xb (d4 s).2.1 E0 0 0 0 0 0 0 0 0 0 0 0 0 0 0 0 0 0 0 0 0 E0 0 0 0 0 0 0 Xb 0 E0 E0 E0):=by
    rintro q i s E ⟨m',rfl,y,H,J,j,A⟩ t;have X:=s8 m' (j.lok.few (by have:=j.len;omega));refine Zi (ZrV ..) (Za (fun L=>Za (fun Y=>?_) fun _=>Zb n (Zc rfl)) fun _=>Zb n (Zc rfl));simp only [CQ,Xi] at L Y;have M:i < d.length:=UM.1 L;have Z:i < min 40 d.length:=by omega
    refine Zi (Zjd M _) (Zh (place _ 3 (by decide) (by decide)) fun k N=>Zi (Zjd M _) ?_);refine Zh (s7w [32,39,32] 3 10 [⟨262144,16,Xb⟩] (Ze [0]) k _ _ _ _ _ _ _ _ _ (by decide) (by decide) (by decide) (by decide) (by decide)) fun aa u=>?_;obtain ⟨c,rfl,hc,C⟩:=u;refine Zg W (Zg (Uk _) (Zg (Uk _) (Zb X ?_)));refine ZAW _ (d.map spc) (Ze [0]) 3 10 m' j (by omega) A k ⟨N.1,by rw [y];exact N.2⟩ c hc C [32,39,32] [⟨262144,16,Xb⟩] y J 10 H rfl fun O w2 a2 f3 f1 f2=>?_;exact t Z (mT O) ⟨O,rfl,f1.trans y,f2.trans H,f3.trans J,w2,a2⟩
   have kk:=Zo (P:=fun r=>r=Xc) (F:=fun q (s:LL×Int×Int×LL×LL×LL×LL×LL×LL×LL) z=>Ztj q (d.map spc) (Ze [32,39,32]) 3 10 ([⟨262144,16,Xb⟩].map JQ) (Ze [0]) z s.1 s.2.1 s.2.2.1 s.2.2.2.1 (d4 s).1 (d4 s).2.1 (d6 s).1 (d6 s).2.1 (d8 s).1 s.2.2.2.2.2.2.2.2.2 0 262144 16 Xb (d4 s).2.1 E0 0 0 0 0 0 0 0 0 0 0 0 0 0 0 0 0 0 0 0 0 E0 0 0 0 0 0 0 Xb 0 E0 E0 E0) (min 40 d.length) (fun i s=>∃ m',s=mT m'∧m'.ws = [32,39,32]∧m'.p=10∧m'.rs = [⟨262144,16,Xb⟩]∧WfM m' i∧m'.l.Pairwise fun a b=>lte a b=Xc) (by omega) o (mT m) ⟨m,rfl,S,T,U,G,by rw [g];exact List.Pairwise.nil⟩;exact kk
  have D:(mT m).2.2.2.2.2.1=E0:=by show m.l.map Zf=E0;rw [g];rfl
  exact h E0 D
 obtain ⟨r,e,rfl⟩:=v;exact e
def s3x (a:List Sp) (b:a.length < 2^63):g3 (a.map spc)=Xa Xc:=s3 a
end Go.Proofs.YtnkmbgbpkgmbnaaGreat
