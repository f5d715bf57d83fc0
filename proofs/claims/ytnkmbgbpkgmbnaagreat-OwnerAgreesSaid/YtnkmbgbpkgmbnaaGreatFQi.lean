import Derived.Test.YtnkmbgbpkgmbnaaGreatM5
open Option renaming some→Xa
open Bool renaming false→Xb
open List renaming length→Xg,replicate→Xv
open Int renaming toNat→Xh
open Go.IntKind renaming wrap→Xl
set_option linter.unusedVariables false
set_option linter.unusedSimpArgs false
set_option linter.defProp false
namespace Go.Proofs.YtnkmbgbpkgmbnaaGreat
open Go Go.AM
set_option maxRecDepth 100000
noncomputable def F53:Fn:=⟨8,[2],[],[],0,[],[],Tryz.f53,[.agg [.int .i64,.int .i64,.bool]],[.agg [.int .i64,.int .i64]],[]⟩
def ZAm:F53.S.Ok Tryz.prog 53:=F53.ok Tryz.func53
noncomputable def g53 (a c:Int) (d:Bool):Option (Int×Int):=F53.S.g [.i a,.i c,.b d]
def Zuc (a b:Int) (c:Bool):g53 a b c =
 (Xa (a,b)):=by kernel_rfl
noncomputable def F26:Fn:=⟨38,[2],[],[],0,[],[],Tryz.f26,[.agg [.int .i64,.int .i64]],[.c (.bool)],[]⟩
def ZsR:F26.S.Ok Tryz.prog 26:=F26.ok Tryz.func26
noncomputable def g26 (a b:Int):Option (Bool):=F26.S.g [.i a,.i b]
def Zua (b a:Int):g26 b a =
 (if P0 .lss a 6 then
 Xa (Xb)
 else
 if P0 .gtr a 40 then
 Xa (Xb)
 else
 if P0 .lss b 0 then
 Xa (Xb)
 else
 if P0 .geq b 1099511627776 then
 Xa (Xb)
 else
 Zl ((0:Int)≤(Xl .u64 a))<|
 Zl (((P1 .shl .i64 1 (Xl .u64 a)):Int)≠0)<|
 if (P0 .eql (P1 .rem .i64 b (P1 .shl .i64 1 (Xl .u64 a))) 0) then
 Xa ((P0 .leq (P1 .add .i64 b (P1 .shl .i64 1 (Xl .u64 a))) 1099511627776))
 else
 Xa (Xb)):=by kernel_rfl
noncomputable def F99:Fn:=⟨13,[2],[],[],0,[],[],Tryz.f99,[.agg [.int .i64,.int .i64]],[.c (.int .i64)],[(26,F26.S)]⟩
def Zz5:F99.S.Ok Tryz.prog 99:=F99.ok Tryz.func99 ⟨ZsR,trivial⟩
noncomputable def g99 (a b:Int):Option (Int):=F99.S.g [.i a,.i b]
def ZuC (b a:Int):g99 b a =
 ((g26 b a).bind fun c=>
 if (!c) then
 Xa (0)
 else
 Zl ((0:Int)≤(Xl .u64 a))<|
 Xa ((P1 .add .i64 b (P1 .shl .i64 1 (Xl .u64 a))))):=by kernel_rfl
noncomputable def F54:Fn:=⟨25,[4],[],[],0,[],[],Tryz.f54,[.agg [.int .i64,.int .i64],.agg [.int .i64,.int .i64]],[.c (.bool)],[(26,F26.S),(99,F99.S)]⟩
def ZAv:F54.S.Ok Tryz.prog 54:=F54.ok Tryz.func54 ⟨ZsR,⟨Zz5,trivial⟩⟩
noncomputable def g54 (a b c d:Int):Option (Bool):=F54.S.g [.i a,.i b,.i c,.i d]
def Ztx (a c b d:Int):g54 a c b d =
 ((g26 a c).bind fun e=>
 if e then
 (g26 b d).bind fun f=>
 if f then
 (g99 b d).bind fun g=>
 if P0 .lss a g then
 (g99 a c).bind fun h=>
 Xa ((P0 .lss b h))
 else
 Xa (Xb)
 else
 Xa (Xb)
 else
 Xa (Xb)):=by kernel_rfl
noncomputable def F19:Fn:=⟨124,[2],[(6,[(1,.box [.slice 1,.int .i64,.int .i64,.slice 3,.slice 1]),(3,.c (.int .i64))]),(11,[(1,.box [.slice 1,.int .i64,.int .i64,.slice 3,.slice 1]),(4,.c (.int .i64))]),(16,[(1,.box [.slice 1,.int .i64,.int .i64,.slice 3,.slice 1]),(4,.c (.int .i64)),(5,.c (.int .i64))])],[],0,[],[],Tryz.f19,[.agg [.slice 1,.int .i64,.int .i64,.slice 3,.slice 1]],[.c (.bool)],[(53,F53.S),(26,F26.S),(54,F54.S)]⟩
def ZA4:F19.S.Ok Tryz.prog 19:=F19.ok Tryz.func19 ⟨ZAm,⟨ZsR,⟨ZAv,trivial⟩⟩⟩
noncomputable def g19 (a:LL) (b c:Int) (d e:LL):Option (Bool):=F19.S.g [.l a,.i b,.i c,.l d,.l e]
noncomputable def Zn1 (h:List V→Option (Bool)) (k:Nat) (a:LL) (b c:Int) (d e:LL) (f g:Int):Option (Bool):=F19.lp [1,1,1,1,1,1,1,1,0,1,2,0,1,0,1,3,1,0] 1 (ZlY r0 0 h) k [.l a,.i b,.i c,.l d,.l e,.i f,.i g]
def ZpA (p:List V→Option (Bool)) (k:Nat) (d:LL) (e f:Int) (a g:LL) (b c:Int):Zn1 p (k+1) d e f a g b c =
 (if P0 .lss c b then
 Zn a b [.int .i64,.int .i64,.bool] fun (h:Int×Int×Bool)=>
 (g53 h.1 h.2.1 h.2.2).bind fun m=>
 Zn a c [.int .i64,.int .i64,.bool] fun (j:Int×Int×Bool)=>
 (g53 j.1 j.2.1 j.2.2).bind fun n=>
 (g54 m.1 m.2 n.1 n.2).bind fun o=>
 if o then
 Xa (Xb)
 else
 Zn1 p k d e f a g b (P1 .add .i64 c 1)
 else
 p [.l d,.i e,.i f,.l a,.l g,.i (P1 .add .i64 b 1)]):=by kernel_rfl
noncomputable def ZsM (k:Nat) (a:LL) (b c:Int) (d e:LL) (f:Int):Option (Bool):=F19.lp [1,1,1,1,1,1,1,1,0,1,0] 0 r0 k [.l a,.i b,.i c,.l d,.l e,.i f]
def Zol (k:Nat) (f:LL) (d g:Int) (b c:LL) (a:Int):ZsM (k+1) f d g b c a =
 (if P0 .lss a (Xg b:Int) then
 Zn c a [.int .i64] fun (i:Int)=>
 if P0 .lss i 0 then
 Xa (Xb)
 else
 Zn c a [.int .i64] fun (j:Int)=>
 if P0 .geq j d then
 Xa (Xb)
 else
 Zn b a [.int .i64,.int .i64,.bool] fun (e:Int×Int×Bool)=>
 (g53 e.1 e.2.1 e.2.2).bind fun h=>
 (g26 h.1 h.2).bind fun l=>
 if (!l) then
 Xa (Xb)
 else
 Zn1 (F19.lp [1,1,1,1,1,1,1,1,0,1,0] 0 r0 k) ZG f d g b c a 0
 else
 Xa (true)):=by kernel_rfl
noncomputable def ZmZ (k:Nat) (a:LL) (b c:Int) (d e:LL) (f:Int):Option (Bool):=F19.lp [1,1,1,1,1,1,1,1,0] 0 r0 k [.l a,.i b,.i c,.l d,.l e,.i f]
def ZoP (k:Nat) (a:LL) (c d:Int) (e f:LL) (b:Int):ZmZ (k+1) a c d e f b =
 (if P0 .lss b (Xg a:Int) then
 Zn a b [.int .i64] fun (g:Int)=>
 if P0 .neq g 32 then
 Zn a b [.int .i64] fun (h:Int)=>
 if P0 .neq h 39 then
 Xa (Xb)
 else
 ZmZ k a c d e f (P1 .add .i64 b 1)
 else
 ZmZ k a c d e f (P1 .add .i64 b 1)
 else
 ZsM ZG a c d e f 0):=by kernel_rfl
def Zt6 (a:LL) (b c:Int) (d e:LL):g19 a b c d e =
 (if P0 .lss (Xg a:Int) 1 then
 Xa (Xb)
 else
 if P0 .gtr (Xg a:Int) 32 then
 Xa (Xb)
 else
 if P0 .lss b 1 then
 Xa (Xb)
 else
 if P0 .gtr b (Xg a:Int) then
 Xa (Xb)
 else
 if P0 .lss c 1 then
 Xa (Xb)
 else
 if P0 .gtr c 64 then
 Xa (Xb)
 else
 if P0 .gtr (Xg d:Int) 16 then
 Xa (Xb)
 else
 if P0 .neq (Xg e:Int) (Xg d:Int) then
 Xa (Xb)
 else
 ZmZ ZG a b c d e 0):=by kernel_rfl
noncomputable def F4:Fn:=⟨49,[2],[(9,[(1,.box [.slice 1,.int .i64,.int .i64,.slice 3,.slice 1]),(3,.ptr 11 0),(5,.c (.int .i64)),(11,.box hs25)])],[],0,[],[],Tryz.f4,[.agg [.slice 1,.int .i64,.int .i64,.slice 3,.slice 1]],[.box hs25],[(19,F19.S)]⟩
def ok4:F4.S.Ok Tryz.prog 4:=F4.ok Tryz.func4 ⟨ZA4,trivial⟩
noncomputable def g4 (a:LL) (b c:Int) (d e:LL):Option (Qt41):=F4.S.g [.l a,.i b,.i c,.l d,.l e]
noncomputable def Zw2 (k:Nat) (a:LL) (b c:Int) (d e:LL) (f:Int) (g:LL) (h j:Int) (m n o p q r s:LL):Option (Qt41):=F4.lp [0,1,10] 0 r0 k [.l a,.i b,.i c,.l d,.l e,.i f,.l g,.i h,.i j,.l m,.l n,.l o,.l p,.l q,.l r,.l s]
def Zq9 (k:Nat) (n:LL) (d o:Int) (p q:LL) (a:Int) (e:LL) (f g:Int) (h i j l b c m:LL):Zw2 (k+1) n d o p q a e f g h i j l b c m =
 (if P0 .lss a d then
 Zl ((0:Int)≤a)<|
 Zl ((a:Int) < (Xg b:Int))<|
 Zl ((0:Int)≤a)<|
 Zl ((a:Int) < (Xg b:Int))<|
 Zl ((0:Int)≤a)<|
 Zl ((a:Int) < (Xg c:Int))<|
 Zl ((0:Int)≤a)<|
 Zl ((a:Int) < (Xg c:Int))<|
 Zw2 k n d o p q (P1 .add .i64 a 1) e f g h i j l (Zw b (Xh a) 0 [B true]) (Zw c (Xh a) 0 [B true]) m
 else
 Xa (e,f,g,h,i,j,l,b,c,m)):=by kernel_rfl
def Zzo (a:LL) (b c:Int) (d e:LL):g4 a b c d e =
 ((g19 a b c d e).bind fun f=>
 if (!f) then
 none
 else
 Zl (Zfg (Xg a:Int) 24)<|
 Zl (((Xg a:Int):Int)≤(Xg a:Int))<|
 Zl (((Xg a:Int):Int)≤(Xg a:Int))<|
 Zl (Zfg (Xg a:Int) 1)<|
 Zl (((Xg a:Int):Int)≤(Xg a:Int))<|
 Zl (((Xg a:Int):Int)≤(Xg a:Int))<|
 Zl (Zfg (Xg a:Int) 1)<|
 Zl (((Xg a:Int):Int)≤(Xg a:Int))<|
 Zl (((Xg a:Int):Int)≤(Xg a:Int))<|
 Zw2 ZG a b c d e 0 a b c d e E0 (Xv (Xh (Xg a:Int)) [AV.slice Xb 4 E0]) (Xv (Xh (Xg a:Int)) [B Xb]) (Xv (Xh (Xg a:Int)) [B Xb]) E0):=by kernel_rfl
noncomputable def F62:Fn:=⟨5,[2],[],[],0,[],[],Tryz.f62,[.c (.slice 3)],[.c (.own Xb 45)],[]⟩
def Zy9:F62.S.Ok Tryz.prog 62:=F62.ok Tryz.func62
noncomputable def g62 (a:LL):Option (LL):=F62.S.g [.l a]
def Zwn (a:LL):g62 a =
 (Zl (ZB E0 a 24)<|
 Xa (a)):=by kernel_rfl
noncomputable def F30:Fn:=⟨8,[2],[],[],0,[],[],Tryz.f30,[.agg hs24],[.agg hs24],[(62,F62.S)]⟩
def ZwE:F30.S.Ok Tryz.prog 30:=F30.ok Tryz.func30 ⟨Zy9,trivial⟩
noncomputable def g30 (a c d:Int) (e:LL) (f h j k m n:Int) (o:Bool):Option (Qt36):=F30.S.g [.i a,.i c,.i d,.l e,.i f,.i h,.i j,.i k,.i m,.i n,.b o]
def Zvt (a b c:Int) (d:LL) (e f g h i j:Int) (k:Bool):g30 a b c d e f g h i j k =
 ((g62 d).bind fun l=>
 Xa (a,b,c,l,e,f,g,h,i,j,k)):=by kernel_rfl
noncomputable def F22:Fn:=⟨32,[2],[(3,[(0,.c (.slice 13)),(3,.c (.own Xb 52)),(4,.c (.int .i64))])],[],0,[],[],Tryz.f22,[.c (.slice 13)],[.c (.own Xb 52)],[(30,F30.S)]⟩
def ZwV:F22.S.Ok Tryz.prog 22:=F22.ok Tryz.func22 ⟨ZwE,trivial⟩
noncomputable def g22 (a:LL):Option (LL):=F22.S.g [.l a]
noncomputable def Zko (k:Nat) (a b:LL) (c:Int):Option (LL):=F22.lp [0] 0 r0 k [.l a,.l b,.i c]
def Zjp (k:Nat) (c e:LL) (d:Int):Zko (k+1) c e d =
 (if P0 .lss d (Xg c:Int) then
 Zn c d hs21 fun (f:Qt30)=>
 Zn c d hs21 fun (g:Qt30)=>
 Zn c d hs21 fun (b:Qt30)=>
 (g30 b.2.2.1 b.2.2.2.1 (d4 b).1 (d4 b).2.1 (d6 b).1 (d6 b).2.1 (d8 b).1 (d8 b).2.1 (df b).1 (df b).2.1 (dg b)).bind fun a=>
 Zl (ZB e (E0++[[I f.1,I g.2.1,I a.1,I a.2.1,I a.2.2.1,AV.slice Xb 3 a.2.2.2.1,I (d4 a).1,I (d4 a).2.1,I (d6 a).1,I (d6 a).2.1,I (d8 a).1,I (d8 a).2.1,B a.2.2.2.2.2.2.2.2.2.2]]) 120)<|
 Zko k c (e++(E0++[[I f.1,I g.2.1,I a.1,I a.2.1,I a.2.2.1,AV.slice Xb 3 a.2.2.2.1,I (d4 a).1,I (d4 a).2.1,I (d6 a).1,I (d6 a).2.1,I (d8 a).1,I (d8 a).2.1,B a.2.2.2.2.2.2.2.2.2.2]])) (P1 .add .i64 d 1)
 else
 Xa (e)):=by kernel_rfl
def Zu5 (a:LL):g22 a =
 (Zko ZG a E0 0):=by kernel_rfl
noncomputable def F8:Fn:=⟨8,[2],[],[0],0,[],[],Tryz.f8,[.box hs25],[.c (.own Xb 52)],[(22,F22.S)]⟩
def ok8:F8.S.Ok Tryz.prog 8:=F8.ok Tryz.func8 ⟨ZwV,trivial⟩
noncomputable def g8 (a:LL) (b c:Int) (d e f h j k m:LL):Option (Qt40):=F8.S.g [.l a,.i b,.i c,.l d,.l e,.l f,.l h,.l j,.l k,.l m]
def Zzy (b:LL) (c d:Int) (e f a g h i j:LL):g8 b c d e f a g h i j =
 ((g22 a).bind fun k=>
 Xa (k,b,c,d,e,f,a,g,h,i,j)):=by kernel_rfl
noncomputable def F10:Fn:=⟨26,[2],[(3,[(0,.box hs25),(3,.c (.own Xb 3)),(4,.c (.int .i64))])],[0],0,[],[],Tryz.f10,[.box hs25],[.c (.own Xb 3)],[]⟩
def ZBe:F10.S.Ok Tryz.prog 10:=F10.ok Tryz.func10
noncomputable def g10 (a:LL) (b c:Int) (d e f h j k m:LL):Option (Qt40):=F10.S.g [.l a,.i b,.i c,.l d,.l e,.l f,.l h,.l j,.l k,.l m]
noncomputable def Zle (k:Nat) (a:LL) (b c:Int) (d e f g h j m n:LL) (o:Int):Option (Qt40):=F10.lp [0] 0 r0 k [.l a,.i b,.i c,.l d,.l e,.l f,.l g,.l h,.l j,.l m,.l n,.i o]
def ZpG (k:Nat) (d:LL) (e f:Int) (g h i j b l m c:LL) (a:Int):Zle (k+1) d e f g h i j b l m c a =
 (if P0 .lss a (Xg b:Int) then
 Zl ((0:Int)≤a)<|
 Zl ((a:Int) < (Xg b:Int))<|
 Zn b a [.bool] fun (n:Bool)=>
 if n then
 Zl (ZB c (E0++[[I a]]) 8)<|
 Zle k d e f g h i j b l m (c++(E0++[[I a]])) (P1 .add .i64 a 1)
 else
 Zle k d e f g h i j b l m c (P1 .add .i64 a 1)
 else
 Xa (c,d,e,f,g,h,i,j,b,l,m)):=by kernel_rfl
def Zwo (a:LL) (b c:Int) (d e f g h i j:LL):g10 a b c d e f g h i j =
 (Zle ZG a b c d e f g h i j E0 0):=by kernel_rfl
end Go.Proofs.YtnkmbgbpkgmbnaaGreat
