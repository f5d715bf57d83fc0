/- Functions of the program, as what they compute. -/
import Derived.Test.YtapbmpfhogkkaaaGreatFMf
namespace Go.Proofs.YtapbmpfhogkkaaaGreat
open Go Go.AM
set_option linter.unusedVariables false
set_option maxRecDepth 100000
noncomputable def F35:Fn:=⟨25,[4],[],[],0,[],[],Tryz.f35,[.agg [.int .i64,.int .i64],.agg [.int .i64,.int .i64]],[.c (.bool)],[(33,F33.S),(62,F62.S)]⟩
theorem ZpR:F35.S.Ok Tryz.prog 35:=F35.ok Tryz.func35 (by kernel_rfl) ⟨Zl9,⟨ZpE,trivial⟩⟩
noncomputable def g35 (a b c d:Int):Option (Bool):=F35.S.g [.i a,.i b,.i c,.i d]
theorem Zmq (a c b d:Int):g35 a c b d =
 ((g33 a c).bind fun e=>
 if e then
 (g33 b d).bind fun f=>
 if f then
 (g62 b d).bind fun g=>
 if (cop .lss a g) then
 (g62 a c).bind fun h=>
 some ((cop .lss b h))
 else
 some (false)
 else
 some (false)
 else
 some (false)):=by kernel_rfl
noncomputable def F14:Fn:=⟨124,[2],[(6,[(1,.box [.slice 1,.int .i64,.int .i64,.slice 3,.slice 1]),(3,.c (.int .i64))]),(11,[(1,.box [.slice 1,.int .i64,.int .i64,.slice 3,.slice 1]),(4,.c (.int .i64))]),(16,[(1,.box [.slice 1,.int .i64,.int .i64,.slice 3,.slice 1]),(4,.c (.int .i64)),(5,.c (.int .i64))])],[],0,[],[],Tryz.f14,[.agg [.slice 1,.int .i64,.int .i64,.slice 3,.slice 1]],[.c (.bool)],[(34,F34.S),(33,F33.S),(35,F35.S)]⟩
theorem Zq0:F14.S.Ok Tryz.prog 14:=F14.ok Tryz.func14 (by kernel_rfl) ⟨Zp1,⟨Zl9,⟨ZpR,trivial⟩⟩⟩
noncomputable def g14 (a:LL) (b c:Int) (d e:LL):Option (Bool):=F14.S.g [.l a,.i b,.i c,.l d,.l e]
noncomputable def Zkp (rec0:List V→Option (Bool)) (k:Nat) (a:LL) (b c:Int) (d e:LL) (f g:Int):Option (Bool):=F14.lp [1,1,1,1,1,1,1,1,0,1,2,0,1,0,1,3,1,0] 1 (Zke r0 0 rec0) k [.l a,.i b,.i c,.l d,.l e,.i f,.i g]
theorem Zjo (rec0:List V→Option (Bool)) (k:Nat) (d:LL) (e f:Int) (a g:LL) (b c:Int):Zkp rec0 (k+1) d e f a g b c =
 (if (cop .lss c b) then
 Zj a b [.int .i64,.int .i64,.bool] fun (h:Int×Int×Bool)=>
 (g34 h.1 h.2.1 h.2.2).bind fun m=>
 Zj a c [.int .i64,.int .i64,.bool] fun (j:Int×Int×Bool)=>
 (g34 j.1 j.2.1 j.2.2).bind fun n=>
 (g35 m.1 m.2 n.1 n.2).bind fun o=>
 if o then
 some (false)
 else
 Zkp rec0 k d e f a g b (iop .add .i64 c 1)
 else
 rec0 [.l d,.i e,.i f,.l a,.l g,.i (iop .add .i64 b 1)]):=by kernel_rfl
noncomputable def Zk1 (k:Nat) (a:LL) (b c:Int) (d e:LL) (f:Int):Option (Bool):=F14.lp [1,1,1,1,1,1,1,1,0,1,0] 0 r0 k [.l a,.i b,.i c,.l d,.l e,.i f]
theorem Zjz (k:Nat) (f:LL) (d g:Int) (b c:LL) (a:Int):Zk1 (k+1) f d g b c a =
 (if (cop .lss a (List.length b:Int)) then
 Zj c a [.int .i64] fun (i:Int)=>
 if (cop .lss i 0) then
 some (false)
 else
 Zj c a [.int .i64] fun (j:Int)=>
 if (cop .geq j d) then
 some (false)
 else
 Zj b a [.int .i64,.int .i64,.bool] fun (e:Int×Int×Bool)=>
 (g34 e.1 e.2.1 e.2.2).bind fun h=>
 (g33 h.1 h.2).bind fun l=>
 if (!l) then
 some (false)
 else
 Zkp (F14.lp [1,1,1,1,1,1,1,1,0,1,0] 0 r0 k) ZZ f d g b c a 0
 else
 some (true)):=by kernel_rfl
noncomputable def ZgV (k:Nat) (a:LL) (b c:Int) (d e:LL) (f:Int):Option (Bool):=F14.lp [1,1,1,1,1,1,1,1,0] 0 r0 k [.l a,.i b,.i c,.l d,.l e,.i f]
theorem Zjt (k:Nat) (a:LL) (c d:Int) (e f:LL) (b:Int):ZgV (k+1) a c d e f b =
 (if (cop .lss b (List.length a:Int)) then
 Zj a b [.int .i64] fun (g:Int)=>
 if (cop .neq g 32) then
 Zj a b [.int .i64] fun (h:Int)=>
 if (cop .neq h 39) then
 some (false)
 else
 ZgV k a c d e f (iop .add .i64 b 1)
 else
 ZgV k a c d e f (iop .add .i64 b 1)
 else
 Zk1 ZZ a c d e f 0):=by kernel_rfl
theorem Zmr (a:LL) (b c:Int) (d e:LL):g14 a b c d e =
 (if (cop .lss (List.length a:Int) 1) then
 some (false)
 else
 if (cop .gtr (List.length a:Int) 32) then
 some (false)
 else
 if (cop .lss b 1) then
 some (false)
 else
 if (cop .gtr b (List.length a:Int)) then
 some (false)
 else
 if (cop .lss c 1) then
 some (false)
 else
 if (cop .gtr c 64) then
 some (false)
 else
 if (cop .gtr (List.length d:Int) 16) then
 some (false)
 else
 if (cop .neq (List.length e:Int) (List.length d:Int)) then
 some (false)
 else
 ZgV ZZ a b c d e 0):=by kernel_rfl
noncomputable def F5:Fn:=⟨49,[2],[(9,[(1,.box [.slice 1,.int .i64,.int .i64,.slice 3,.slice 1]),(3,.ptr 11 0),(5,.c (.int .i64)),(11,.box hs7)])],[],0,[],[],Tryz.f5,[.agg [.slice 1,.int .i64,.int .i64,.slice 3,.slice 1]],[.box hs7],[(14,F14.S)]⟩
theorem ok5:F5.S.Ok Tryz.prog 5:=F5.ok Tryz.func5 (by kernel_rfl) ⟨Zq0,trivial⟩
noncomputable def g5 (a:LL) (b c:Int) (d e:LL):Option (Qt23):=F5.S.g [.l a,.i b,.i c,.l d,.l e]
noncomputable def Zoz (k:Nat) (a:LL) (b c:Int) (d e:LL) (f:Int) (g:LL) (h j:Int) (m n o p q r s:LL):Option (Qt23):=F5.lp [0,1,10] 0 r0 k [.l a,.i b,.i c,.l d,.l e,.i f,.l g,.i h,.i j,.l m,.l n,.l o,.l p,.l q,.l r,.l s]
theorem ZlY (k:Nat) (n:LL) (d o:Int) (p q:LL) (a:Int) (e:LL) (f g:Int) (h i j l b c m:LL):Zoz (k+1) n d o p q a e f g h i j l b c m =
 (if (cop .lss a d) then
 Zi ((0:Int)≤a)<|
 Zi ((a:Int) < (List.length b:Int))<|
 Zi ((0:Int)≤a)<|
 Zi ((a:Int) < (List.length b:Int))<|
 Zi ((0:Int)≤a)<|
 Zi ((a:Int) < (List.length c:Int))<|
 Zi ((0:Int)≤a)<|
 Zi ((a:Int) < (List.length c:Int))<|
 Zoz k n d o p q (iop .add .i64 a 1) e f g h i j l (Zp b (Int.toNat a) 0 [AV.val (.bool true)]) (Zp c (Int.toNat a) 0 [AV.val (.bool true)]) m
 else
 some (e,f,g,h,i,j,l,b,c,m)):=by kernel_rfl
theorem Zpe (a:LL) (b c:Int) (d e:LL):g5 a b c d e =
 ((g14 a b c d e).bind fun f=>
 if (!f) then
 none
 else
 Zi (ZaB (List.length a:Int) 24)<|
 Zi (((List.length a:Int):Int)≤(List.length a:Int))<|
 Zi (((List.length a:Int):Int)≤(List.length a:Int))<|
 Zi (ZaB (List.length a:Int) 1)<|
 Zi (((List.length a:Int):Int)≤(List.length a:Int))<|
 Zi (((List.length a:Int):Int)≤(List.length a:Int))<|
 Zi (ZaB (List.length a:Int) 1)<|
 Zi (((List.length a:Int):Int)≤(List.length a:Int))<|
 Zi (((List.length a:Int):Int)≤(List.length a:Int))<|
 Zoz ZZ a b c d e 0 a b c d e E0 (List.replicate (Int.toNat (List.length a:Int)) [AV.slice false 4 E0]) (List.replicate (Int.toNat (List.length a:Int)) [AV.val (.bool false)]) (List.replicate (Int.toNat (List.length a:Int)) [AV.val (.bool false)]) E0):=by kernel_rfl
noncomputable def F80:Fn:=⟨5,[2],[],[],0,[],[],Tryz.f80,[.c (.slice 3)],[.c (.own false 48)],[]⟩
theorem Zpd:F80.S.Ok Tryz.prog 80:=F80.ok Tryz.func80 (by kernel_rfl) trivial
noncomputable def g80 (a:LL):Option (LL):=F80.S.g [.l a]
theorem Znk (a:LL):g80 a =
 (Zi (Z5 E0 a 24)<|
 some (a)):=by kernel_rfl
noncomputable def F51:Fn:=⟨8,[2],[],[],0,[],[],Tryz.f51,[.agg hs6],[.agg hs6],[(80,F80.S)]⟩
theorem ZoR:F51.S.Ok Tryz.prog 51:=F51.ok Tryz.func51 (by kernel_rfl) ⟨Zpd,trivial⟩
noncomputable def g51 (a c d:Int) (e:LL) (f h j k m n:Int) (o:Bool):Option (Qt19):=F51.S.g [.i a,.i c,.i d,.l e,.i f,.i h,.i j,.i k,.i m,.i n,.b o]
theorem ZnF (a b c:Int) (d:LL) (e f g h i j:Int) (k:Bool):g51 a b c d e f g h i j k =
 ((g80 d).bind fun l=>
 some (a,b,c,l,e,f,g,h,i,j,k)):=by kernel_rfl
noncomputable def F22:Fn:=⟨32,[2],[(3,[(0,.c (.slice 13)),(3,.c (.own false 53)),(4,.c (.int .i64))])],[],0,[],[],Tryz.f22,[.c (.slice 13)],[.c (.own false 53)],[(51,F51.S)]⟩
theorem ZoP:F22.S.Ok Tryz.prog 22:=F22.ok Tryz.func22 (by kernel_rfl) ⟨ZoR,trivial⟩
noncomputable def g22 (a:LL):Option (LL):=F22.S.g [.l a]
noncomputable def ZgS (k:Nat) (a b:LL) (c:Int):Option (LL):=F22.lp [0] 0 r0 k [.l a,.l b,.i c]
theorem Zfb (k:Nat) (c e:LL) (d:Int):ZgS (k+1) c e d =
 (if (cop .lss d (List.length c:Int)) then
 Zj c d hs3 fun (f:Qt13)=>
 Zj c d hs3 fun (g:Qt13)=>
 Zj c d hs3 fun (b:Qt13)=>
 (g51 b.2.2.1 b.2.2.2.1 b.2.2.2.2.1 b.2.2.2.2.2.1 b.2.2.2.2.2.2.1 b.2.2.2.2.2.2.2.1 b.2.2.2.2.2.2.2.2.1 b.2.2.2.2.2.2.2.2.2.1 b.2.2.2.2.2.2.2.2.2.2.1 b.2.2.2.2.2.2.2.2.2.2.2.1 (d4 (d8 b))).bind fun a=>
 Zi (Z5 e (E0++[[AV.val (.int .i64 f.1),AV.val (.int .i64 g.2.1),AV.val (.int .i64 a.1),AV.val (.int .i64 a.2.1),AV.val (.int .i64 a.2.2.1),AV.slice false 3 a.2.2.2.1,AV.val (.int .i64 a.2.2.2.2.1),AV.val (.int .i64 a.2.2.2.2.2.1),AV.val (.int .i64 a.2.2.2.2.2.2.1),AV.val (.int .i64 a.2.2.2.2.2.2.2.1),AV.val (.int .i64 a.2.2.2.2.2.2.2.2.1),AV.val (.int .i64 a.2.2.2.2.2.2.2.2.2.1),AV.val (.bool a.2.2.2.2.2.2.2.2.2.2)]]) 120)<|
 ZgS k c (e++(E0++[[AV.val (.int .i64 f.1),AV.val (.int .i64 g.2.1),AV.val (.int .i64 a.1),AV.val (.int .i64 a.2.1),AV.val (.int .i64 a.2.2.1),AV.slice false 3 a.2.2.2.1,AV.val (.int .i64 a.2.2.2.2.1),AV.val (.int .i64 a.2.2.2.2.2.1),AV.val (.int .i64 a.2.2.2.2.2.2.1),AV.val (.int .i64 a.2.2.2.2.2.2.2.1),AV.val (.int .i64 a.2.2.2.2.2.2.2.2.1),AV.val (.int .i64 a.2.2.2.2.2.2.2.2.2.1),AV.val (.bool a.2.2.2.2.2.2.2.2.2.2)]])) (iop .add .i64 d 1)
 else
 some (e)):=by kernel_rfl
theorem Zoh (a:LL):g22 a =
 (ZgS ZZ a E0 0):=by kernel_rfl
noncomputable def F9:Fn:=⟨8,[2],[],[0],0,[],[],Tryz.f9,[.box hs7],[.c (.own false 53)],[(22,F22.S)]⟩
theorem ok9:F9.S.Ok Tryz.prog 9:=F9.ok Tryz.func9 (by kernel_rfl) ⟨ZoP,trivial⟩
noncomputable def g9 (a:LL) (b c:Int) (d e f h j k m:LL):Option (Qt22):=F9.S.g [.l a,.i b,.i c,.l d,.l e,.l f,.l h,.l j,.l k,.l m]
theorem Zpb (b:LL) (c d:Int) (e f a g h i j:LL):g9 b c d e f a g h i j =
 ((g22 a).bind fun k=>
 some (k,b,c,d,e,f,a,g,h,i,j)):=by kernel_rfl
noncomputable def F11:Fn:=⟨26,[2],[(3,[(0,.box hs7),(3,.c (.own false 3)),(4,.c (.int .i64))])],[0],0,[],[],Tryz.f11,[.box hs7],[.c (.own false 3)],[]⟩
theorem Zqa:F11.S.Ok Tryz.prog 11:=F11.ok Tryz.func11 (by kernel_rfl) trivial
noncomputable def g11 (a:LL) (b c:Int) (d e f h j k m:LL):Option (Qt22):=F11.S.g [.l a,.i b,.i c,.l d,.l e,.l f,.l h,.l j,.l k,.l m]
noncomputable def Zhk (k:Nat) (a:LL) (b c:Int) (d e f g h j m n:LL) (o:Int):Option (Qt22):=F11.lp [0] 0 r0 k [.l a,.i b,.i c,.l d,.l e,.l f,.l g,.l h,.l j,.l m,.l n,.i o]
theorem Zjv (k:Nat) (d:LL) (e f:Int) (g h i j b l m c:LL) (a:Int):Zhk (k+1) d e f g h i j b l m c a =
 (if (cop .lss a (List.length b:Int)) then
 Zi ((0:Int)≤a)<|
 Zi ((a:Int) < (List.length b:Int))<|
 Zj b a [.bool] fun (n:Bool)=>
 if n then
 Zi (Z5 c (E0++[[AV.val (.int .i64 a)]]) 8)<|
 Zhk k d e f g h i j b l m (c++(E0++[[AV.val (.int .i64 a)]])) (iop .add .i64 a 1)
 else
 Zhk k d e f g h i j b l m c (iop .add .i64 a 1)
 else
 some (c,d,e,f,g,h,i,j,b,l,m)):=by kernel_rfl
theorem ZnS (a:LL) (b c:Int) (d e f g h i j:LL):g11 a b c d e f g h i j =
 (Zhk ZZ a b c d e f g h i j E0 0):=by kernel_rfl
noncomputable def F84:Fn:=⟨18,[4],[(2,[(0,.c (.slice 3)),(3,.box [.int .i64,.int .i64,.int .i64]),(5,.c (.int .i64))])],[],0,[],[],Tryz.f84,[.c (.slice 3),.agg [.int .i64,.int .i64,.int .i64]],[.c (.bool)],[]⟩
theorem ZoJ:F84.S.Ok Tryz.prog 84:=F84.ok Tryz.func84 (by kernel_rfl) trivial
noncomputable def g84 (a:LL) (b c d:Int):Option (Bool):=F84.S.g [.l a,.i b,.i c,.i d]
noncomputable def ZiS (k:Nat) (a:LL) (b c d e:Int):Option (Bool):=F84.lp [0] 0 r0 k [.l a,.i b,.i c,.i d,.i e]
theorem ZfI (k:Nat) (a:LL) (c d e b:Int):ZiS (k+1) a c d e b =
 (if (cop .lss b (List.length a:Int)) then
 Zj a b [.int .i64,.int .i64,.int .i64] fun (f:Int×Int×Int)=>
 if ((cop .eql f.1 c)&&((cop .eql f.2.1 d)&&((cop .eql f.2.2 e)&&true))) then
 some (true)
 else
 ZiS k a c d e (iop .add .i64 b 1)
 else
 some (false)):=by kernel_rfl
theorem ZnK (a:LL) (b c d:Int):g84 a b c d =
 (ZiS ZZ a b c d 0):=by kernel_rfl
noncomputable def F85:Fn:=⟨76,[6],[(3,[(0,.c (.slice 4)),(1,.c (.slice 3)),(2,.c (.slice 1)),(7,.c (.own false 134)),(8,.c (.int .i64))]),(9,[(0,.c (.slice 4)),(1,.c (.slice 3)),(2,.c (.slice 1)),(7,.c (.own false 134)),(8,.c (.int .i64)),(9,.box [.int .i64,.int .i64,.int .i64,.slice 6]),(10,.c (.int .i64))])],[],0,[],[],Tryz.f85,[.c (.slice 4),.c (.slice 3),.c (.slice 1)],[.c (.slice 4)],[(100,Znf.S),(84,F84.S)]⟩
theorem Zqk:F85.S.Ok Tryz.prog 85:=F85.ok Tryz.func85 (by kernel_rfl) ⟨Zpi,⟨ZoJ,trivial⟩⟩
noncomputable def g85 (a b c:LL):Option (LL):=F85.S.g [.l a,.l b,.l c]
noncomputable def ZgB (rec0:List V→Option (LL)) (k:Nat) (a b c d:LL) (e f g h:Int) (j:LL) (m:Int):Option (LL):=F85.lp [2,2,1,2] 1 (Zke r0 0 rec0) k [.l a,.l b,.l c,.l d,.i e,.i f,.i g,.i h,.l j,.i m]
theorem Zkf (rec0:List V→Option (LL)) (k:Nat) (b e h f:LL) (c j m n:Int) (d:LL) (g:Int):ZgB rec0 (k+1) b e h f c j m n d g =
 (Zj b c [.int .i64,.int .i64,.int .i64,.slice 6] fun (p:Int×Int×Int×LL)=>
 if (cop .lss g (List.length p.2.2.2:Int)) then
 Zj b c [.int .i64,.int .i64,.int .i64,.slice 6] fun (q:Int×Int×Int×LL)=>
 Zj q.2.2.2 g hs17 fun (o:Qt26)=>
 (g84 e o.2.2.2.1 o.2.2.2.2.1 o.2.2.2.2.2).bind fun r=>
 if r then
 Zi (Z5 E0 d 48)<|
 Zj b c [.int .i64,.int .i64,.int .i64,.slice 6] fun (s:Int×Int×Int×LL)=>
 Zj s.2.2.2 g hs17 fun (a:Qt26)=>
 Zi (Z5 d (E0++[[AV.val (.int .i64 a.1),AV.val (.int .i64 a.2.1),AV.val (.int .i64 a.2.2.1),AV.val (.int .i64 a.2.2.2.1),AV.val (.int .i64 a.2.2.2.2.1),AV.val (.int .i64 a.2.2.2.2.2)]]) 48)<|
 ZgB rec0 k b e h f c j m n (d++(E0++[[AV.val (.int .i64 a.1),AV.val (.int .i64 a.2.1),AV.val (.int .i64 a.2.2.1),AV.val (.int .i64 a.2.2.2.1),AV.val (.int .i64 a.2.2.2.2.1),AV.val (.int .i64 a.2.2.2.2.2)]])) (iop .add .i64 g 1)
 else
 ZgB rec0 k b e h f c j m n d (iop .add .i64 g 1)
 else
 if (cop .gtr (List.length d:Int) 0) then
 Zi (Z5 f (E0++[[AV.val (.int .i64 j),AV.val (.int .i64 m),AV.val (.int .i64 n),AV.slice false 6 d]]) 48)<|
 rec0 [.l b,.l e,.l h,.l (f++(E0++[[AV.val (.int .i64 j),AV.val (.int .i64 m),AV.val (.int .i64 n),AV.slice false 6 d]])),.i (iop .add .i64 c 1)]
 else
 rec0 [.l b,.l e,.l h,.l f,.i (iop .add .i64 c 1)]):=by kernel_rfl
noncomputable def Zkc (k:Nat) (a b c d:LL) (e:Int):Option (LL):=F85.lp [0] 0 r0 k [.l a,.l b,.l c,.l d,.i e]
theorem Zj8 (k:Nat) (a e c d:LL) (b:Int):Zkc (k+1) a e c d b =
 (if (cop .lss b (List.length a:Int)) then
 Zj a b [.int .i64,.int .i64,.int .i64,.slice 6] fun (g:Int×Int×Int×LL)=>
 (ZoZ c g.1).bind fun h=>
 if (!h) then
 Zkc k a e c d (iop .add .i64 b 1)
 else
 Zj a b [.int .i64,.int .i64,.int .i64,.slice 6] fun (f:Int×Int×Int×LL)=>
 ZgB (F85.lp [0] 0 r0 k) ZZ a e c d b f.1 f.2.1 f.2.2.1 E0 0
 else
 some (d)):=by kernel_rfl
theorem Zmy (a b c:LL):g85 a b c =
 (Zkc ZZ a b c E0 0):=by kernel_rfl
noncomputable def F49:Fn:=⟨31,[4],[(3,[(0,.c (.slice 13)),(3,.box [.int .i64,.int .i64,.int .i64]),(5,.c (.own false 53)),(6,.c (.int .i64))])],[],0,[],[],Tryz.f49,[.c (.slice 13),.agg [.int .i64,.int .i64,.int .i64]],[.c (.slice 13)],[(84,F84.S),(22,F22.S)]⟩
theorem Zp8:F49.S.Ok Tryz.prog 49:=F49.ok Tryz.func49 (by kernel_rfl) ⟨ZoJ,⟨ZoP,trivial⟩⟩
noncomputable def g49 (a:LL) (b c d:Int):Option (LL):=F49.S.g [.l a,.i b,.i c,.i d]
noncomputable def Zid (k:Nat) (a:LL) (b c d:Int) (e:LL) (f:Int):Option (LL):=F49.lp [0] 0 r0 k [.l a,.i b,.i c,.i d,.l e,.i f]
theorem Ze9 (k:Nat) (b:LL) (e f g:Int) (d:LL) (c:Int):Zid (k+1) b e f g d c =
 (if (cop .lss c (List.length b:Int)) then
 Zj b c hs3 fun (h:Qt13)=>
 (g84 h.2.2.2.2.2.1 e f g).bind fun i=>
 if (!i) then
 Zj b c hs3 fun (a:Qt13)=>
 Zi (Z5 d (E0++[[AV.val (.int .i64 a.1),AV.val (.int .i64 a.2.1),AV.val (.int .i64 a.2.2.1),AV.val (.int .i64 a.2.2.2.1),AV.val (.int .i64 a.2.2.2.2.1),AV.slice false 3 a.2.2.2.2.2.1,AV.val (.int .i64 a.2.2.2.2.2.2.1),AV.val (.int .i64 a.2.2.2.2.2.2.2.1),AV.val (.int .i64 a.2.2.2.2.2.2.2.2.1),AV.val (.int .i64 a.2.2.2.2.2.2.2.2.2.1),AV.val (.int .i64 a.2.2.2.2.2.2.2.2.2.2.1),AV.val (.int .i64 a.2.2.2.2.2.2.2.2.2.2.2.1),AV.val (.bool (d4 (d8 a)))]]) 120)<|
 Zid k b e f g (d++(E0++[[AV.val (.int .i64 a.1),AV.val (.int .i64 a.2.1),AV.val (.int .i64 a.2.2.1),AV.val (.int .i64 a.2.2.2.1),AV.val (.int .i64 a.2.2.2.2.1),AV.slice false 3 a.2.2.2.2.2.1,AV.val (.int .i64 a.2.2.2.2.2.2.1),AV.val (.int .i64 a.2.2.2.2.2.2.2.1),AV.val (.int .i64 a.2.2.2.2.2.2.2.2.1),AV.val (.int .i64 a.2.2.2.2.2.2.2.2.2.1),AV.val (.int .i64 a.2.2.2.2.2.2.2.2.2.2.1),AV.val (.int .i64 a.2.2.2.2.2.2.2.2.2.2.2.1),AV.val (.bool (d4 (d8 a)))]])) (iop .add .i64 c 1)
 else
 Zid k b e f g d (iop .add .i64 c 1)
 else
 (g22 d).bind fun h=>
 some (h)):=by kernel_rfl
theorem ZnD (a:LL) (b c d:Int):g49 a b c d =
 (Zid ZZ a b c d E0 0):=by kernel_rfl
noncomputable def F64:Fn:=⟨21,[4],[(2,[(0,.c (.slice 13)),(3,.box [.int .i64,.int .i64,.int .i64]),(5,.c (.int .i64))])],[],0,[],[],Tryz.f64,[.c (.slice 13),.agg [.int .i64,.int .i64,.int .i64]],[.c (.int .i64)],[]⟩
theorem Zo2:F64.S.Ok Tryz.prog 64:=F64.ok Tryz.func64 (by kernel_rfl) trivial
noncomputable def g64 (a:LL) (b c d:Int):Option (Int):=F64.S.g [.l a,.i b,.i c,.i d]
noncomputable def Zgl (k:Nat) (a:LL) (b c d e:Int):Option (Int):=F64.lp [0] 0 r0 k [.l a,.i b,.i c,.i d,.i e]
theorem Zfc (k:Nat) (b:LL) (c d e a:Int):Zgl (k+1) b c d e a =
 (if (cop .lss a (List.length b:Int)) then
 Zj b a hs3 fun (f:Qt13)=>
 if ((cop .eql f.2.2.1 c)&&((cop .eql f.2.2.2.1 d)&&((cop .eql f.2.2.2.2.1 e)&&true))) then
 some (a)
 else
 Zgl k b c d e (iop .add .i64 a 1)
 else
 some ((-1))):=by kernel_rfl
theorem ZnY (a:LL) (b c d:Int):g64 a b c d =
 (Zgl ZZ a b c d 0):=by kernel_rfl
noncomputable def F48:Fn:=⟨22,[4,5],[],[],0,[],[],Tryz.f48,[.c (.slice 13),.agg [.int .i64,.int .i64,.int .i64]],[.c (.slice 13),.c (.bool)],[(64,F64.S),(22,F22.S)]⟩
theorem ZqQ:F48.S.Ok Tryz.prog 48:=F48.ok Tryz.func48 (by kernel_rfl) ⟨Zo2,⟨ZoP,trivial⟩⟩
noncomputable def g48 (a:LL) (b c d:Int):Option (LL×Bool):=F48.S.g [.l a,.i b,.i c,.i d]
theorem Zmd (b:LL) (c d e:Int):g48 b c d e =
 ((g64 b c d e).bind fun a=>
 if (cop .lss a 0) then
 some (E0,false)
 else
 Zi ((0:Int)≤a)<|
 Zi ((a:Int)≤(List.length b:Int))<|
 (g22 (List.take (Int.toNat a) b)).bind fun f=>
 Zi ((0:Int)≤(iop .add .i64 a 1))<|
 Zi (((iop .add .i64 a 1):Int)≤(List.length b:Int))<|
 (g22 (List.drop (Int.toNat (iop .add .i64 a 1)) b)).bind fun g=>
 Zi (Z5 f g 120)<|
 some ((f++g),true)):=by kernel_rfl
noncomputable def F50:Fn:=⟨86,[],[(1,[(0,.box hs7),(2,.c (.int .i64))]),(6,[(0,.box hs7),(2,.c (.int .i64)),(3,.c (.own false 48)),(4,.c (.own false 3)),(5,.c (.int .i64))])],[0],0,[],[],Tryz.f50,[.box hs7],[],[(85,F85.S)]⟩
theorem Zqv:F50.S.Ok Tryz.prog 50:=F50.ok Tryz.func50 (by kernel_rfl) ⟨Zqk,trivial⟩
noncomputable def g50 (a:LL) (b c:Int) (d e f h j k m:LL):Option (Qt23):=F50.S.g [.l a,.i b,.i c,.l d,.l e,.l f,.l h,.l j,.l k,.l m]
noncomputable def Zgg (rec0:List V→Option (Qt23)) (k:Nat) (a:LL) (b c:Int) (d e f g h j m:LL) (n:Int) (o p:LL) (q:Int):Option (Qt23):=F50.lp [2,0] 1 (Zke r0 0 rec0) k [.l a,.i b,.i c,.l d,.l e,.l f,.l g,.l h,.l j,.l m,.i n,.l o,.l p,.i q]
theorem Zkj (rec0:List V→Option (Qt23)) (k:Nat) (h:LL) (j m:Int) (n o b c p q r:LL) (a:Int) (f g:LL) (d:Int):Zgg rec0 (k+1) h j m n o b c p q r a f g d =
 (if (cop .lss d (List.length b:Int)) then
 Zj b d hs3 fun (s:Qt13)=>
 if (cop .eql s.1 a) then
 Zj b d hs3 fun (e:Qt13)=>
 Zi (Z5 f (E0++[[AV.val (.int .i64 e.2.2.1),AV.val (.int .i64 e.2.2.2.1),AV.val (.int .i64 e.2.2.2.2.1)]]) 24)<|
 Zj b d hs3 fun (u:Qt13)=>
 if (cop .eql u.2.2.2.2.2.2.1 3) then
 Zj b d hs3 fun (t:Qt13)=>
 Zi (Z5 g (E0++[[AV.val (.int .i64 t.2.2.2.2.2.2.2.1)]]) 8)<|
 Zgg rec0 k h j m n o b c p q r a (f++(E0++[[AV.val (.int .i64 e.2.2.1),AV.val (.int .i64 e.2.2.2.1),AV.val (.int .i64 e.2.2.2.2.1)]])) (g++(E0++[[AV.val (.int .i64 t.2.2.2.2.2.2.2.1)]])) (iop .add .i64 d 1)
 else
 Zgg rec0 k h j m n o b c p q r a (f++(E0++[[AV.val (.int .i64 e.2.2.1),AV.val (.int .i64 e.2.2.2.1),AV.val (.int .i64 e.2.2.2.2.1)]])) g (iop .add .i64 d 1)
 else
 Zgg rec0 k h j m n o b c p q r a f g (iop .add .i64 d 1)
 else
 Zi ((0:Int)≤a)<|
 Zi ((a:Int) < (List.length c:Int))<|
 Zj c a [.slice 4] fun (s:LL)=>
 (g85 s f g).bind fun v=>
 Zi ((0:Int)≤a)<|
 Zi ((a:Int) < (List.length c:Int))<|
 Zi ((0:Int)≤a)<|
 Zi ((a:Int) < (List.length c:Int))<|
 rec0 [.l h,.i j,.i m,.l n,.l o,.l b,.l (Zp c (Int.toNat a) 0 [AV.slice false 4 v]),.l p,.l q,.l r,.i (iop .add .i64 a 1)]):=by kernel_rfl
noncomputable def ZkW (k:Nat) (a:LL) (b c:Int) (d e f g h j m:LL) (n:Int):Option (Qt23):=F50.lp [0] 0 r0 k [.l a,.i b,.i c,.l d,.l e,.l f,.l g,.l h,.l j,.l m,.i n]
theorem Zj5 (k:Nat) (b:LL) (c d:Int) (e f g a h i j:LL) (l:Int):ZkW (k+1) b c d e f g a h i j l =
 (if (cop .lss l (List.length a:Int)) then
 Zgg (F50.lp [0] 0 r0 k) ZZ b c d e f g a h i j l E0 E0 0
 else
 some (b,c,d,e,f,g,a,h,i,j)):=by kernel_rfl
theorem ZnL (a:LL) (b c:Int) (d e f g h i j:LL):g50 a b c d e f g h i j =
 (ZkW ZZ a b c d e f g h i j 0):=by kernel_rfl
noncomputable def F77:Fn:=⟨8,[2],[],[],0,[],[],Tryz.f77,[.c (.int .i64)],[.c (.int .i64)],[]⟩
theorem Zpc:F77.S.Ok Tryz.prog 77:=F77.ok Tryz.func77 (by kernel_rfl) trivial
noncomputable def g77 (a:Int):Option (Int):=F77.S.g [.i a]
theorem Zm9 (a:Int):g77 a =
 (if (cop .eql a 32) then
 some (2)
 else
 if (cop .eql a 39) then
 some (3)
 else
 some (0)):=by kernel_rfl
noncomputable def ZoI:Fn:=⟨14,[2],[],[],0,[],[],Tryz.f113,[.c (.int .i64)],[.c (.bool)],[]⟩
theorem ZoW:ZoI.S.Ok Tryz.prog 113:=ZoI.ok Tryz.func113 (by kernel_rfl) trivial
noncomputable def Zow (a:Int):Option (Bool):=ZoI.S.g [.i a]
theorem Zl3 (a:Int):Zow a =
 (if (cop .geq a 0) then
 Zi ((4096:Int)≠0)<|
 if (cop .eql (iop .rem .i64 a 4096) 0) then
 some ((cop .leq a 1099511623680))
 else
 some (false)
 else
 some (false)):=by kernel_rfl
noncomputable def F70:Fn:=⟨8,[2],[],[],0,[],[],Tryz.f70,[.c (.int .i64)],[.c (.int .i64)],[]⟩
theorem ZoC:F70.S.Ok Tryz.prog 70:=F70.ok Tryz.func70 (by kernel_rfl) trivial
noncomputable def g70 (a:Int):Option (Int):=F70.S.g [.i a]
theorem Znu (a:Int):g70 a =
 (if (cop .eql a 32) then
 some (10)
 else
 if (cop .eql a 39) then
 some (9)
 else
 some (0)):=by kernel_rfl
noncomputable def F97:Fn:=⟨31,[2],[],[],0,[],[],Tryz.f97,[.agg [.int .i64,.int .i64,.int .i64]],[.c (.bool)],[]⟩
theorem ZoV:F97.S.Ok Tryz.prog 97:=F97.ok Tryz.func97 (by kernel_rfl) trivial
noncomputable def g97 (a b c:Int):Option (Bool):=F97.S.g [.i a,.i b,.i c]
theorem Zn4 (a b c:Int):g97 a b c =
 (if (cop .geq a 0) then
 if (cop .lss a 32) then
 if (cop .geq b 1) then
 if (cop .leq b 1073741824) then
 if (cop .geq c 0) then
 some ((cop .lss c 8))
 else
 some (false)
 else
 some (false)
 else
 some (false)
 else
 some (false)
 else
 some (false)):=by kernel_rfl
noncomputable def F96:Fn:=⟨87,[2],[(5,[(1,.box [.int .i64,.int .i64,.int .i64,.slice 6]),(3,.c (.int .i64)),(4,.c (.int .i64))])],[],0,[],[],Tryz.f96,[.agg [.int .i64,.int .i64,.int .i64,.slice 6]],[.c (.bool)],[(77,F77.S),(113,ZoI.S),(70,F70.S),(97,F97.S)]⟩
theorem Zqf:F96.S.Ok Tryz.prog 96:=F96.ok Tryz.func96 (by kernel_rfl) ⟨Zpc,⟨ZoW,⟨ZoC,⟨ZoV,trivial⟩⟩⟩⟩
noncomputable def g96 (a b c:Int) (d:LL):Option (Bool):=F96.S.g [.i a,.i b,.i c,.l d]
noncomputable def Zh1 (k:Nat) (a b c:Int) (d:LL) (e f:Int):Option (Bool):=F96.lp [1,0,1,0,1,1,0] 0 r0 k [.i a,.i b,.i c,.l d,.i e,.i f]
theorem Zkr (k:Nat) (f d e:Int) (b:LL) (g c:Int):Zh1 (k+1) f d e b g c =
 (if (cop .lss c (List.length b:Int)) then
 Zj b c hs17 fun (a:Qt26)=>
 if (cop .leq a.1 g) then
 some (false)
 else
 (g70 d).bind fun h=>
 Zi ((0:Int)≤(IntKind.wrap .u64 h))<|
 if (cop .geq a.1 (iop .shl .i64 1 (IntKind.wrap .u64 h))) then
 some (false)
 else
 (g97 a.2.2.2.1 a.2.2.2.2.1 a.2.2.2.2.2).bind fun i=>
 if (!i) then
 some (false)
 else
 (Zow a.2.1).bind fun j=>
 if (!j) then
 some (false)
 else
 if (cop .lss a.2.2.1 0) then
 some (false)
 else
 if (cop .gtr a.2.2.1 3) then
 some (false)
 else
 if (cop .gtr e 0) then
 if (cop .neq a.2.2.1 0) then
 some (false)
 else
 Zh1 k f d e b a.1 (iop .add .i64 c 1)
 else
 Zh1 k f d e b a.1 (iop .add .i64 c 1)
 else
 some (true)):=by kernel_rfl
theorem Zmp (b c a:Int) (d:LL):g96 b c a d =
 (if (cop .lss a 0) then
 some (false)
 else
 (g77 c).bind fun e=>
 if (cop .geq a e) then
 some (false)
 else
 (Zow b).bind fun f=>
 if (!f) then
 some (false)
 else
 if (cop .eql (List.length d:Int) 0) then
 some (false)
 else
 Zh1 ZZ b c a d (-1) 0):=by kernel_rfl
noncomputable def F68:Fn:=⟨34,[2],[(2,[(0,.c (.slice 4)),(3,.c (.int .i64))])],[],0,[],[],Tryz.f68,[.c (.slice 4)],[.c (.bool)],[(96,F96.S)]⟩
theorem Zo9:F68.S.Ok Tryz.prog 68:=F68.ok Tryz.func68 (by kernel_rfl) ⟨Zqf,trivial⟩
noncomputable def g68 (a:LL):Option (Bool):=F68.S.g [.l a]
noncomputable def Zf7 (k:Nat) (a:LL) (b:Int):Option (Bool):=F68.lp [0] 0 r0 k [.l a,.i b]
theorem ZjV (k:Nat) (b:LL) (a:Int):Zf7 (k+1) b a =
 (if (cop .lss a (List.length b:Int)) then
 Zj b a [.int .i64,.int .i64,.int .i64,.slice 6] fun (c:Int×Int×Int×LL)=>
 (g96 c.1 c.2.1 c.2.2.1 c.2.2.2).bind fun d=>
 if (!d) then
 some (false)
 else
 if (cop .gtr a 0) then
 Zj b a [.int .i64,.int .i64,.int .i64,.slice 6] fun (e:Int×Int×Int×LL)=>
 Zj b (iop .sub .i64 a 1) [.int .i64,.int .i64,.int .i64,.slice 6] fun (f:Int×Int×Int×LL)=>
 if (cop .leq e.1 f.1) then
 some (false)
 else
 Zf7 k b (iop .add .i64 a 1)
 else
 Zf7 k b (iop .add .i64 a 1)
 else
 some (true)):=by kernel_rfl
theorem Zn9 (a:LL):g68 a =
 (Zf7 ZZ a 0):=by kernel_rfl
noncomputable def ZoA:Fn:=⟨12,[2],[],[],0,[],[],Tryz.f114,[.c (.int .i64)],[.c (.int .i64)],[]⟩
theorem Zo0:ZoA.S.Ok Tryz.prog 114:=ZoA.ok Tryz.func114 (by kernel_rfl) trivial
noncomputable def Zpa (a:Int):Option (Int):=ZoA.S.g [.i a]
theorem ZlM (a:Int):Zpa a =
 (if (cop .eql a 3) then
 some (12)
 else
 if (cop .eql a 4) then
 some (6)
 else
 if (cop .eql a 5) then
 some (10)
 else
 if (cop .eql a 6) then
 some (16)
 else
 some (0)):=by kernel_rfl
noncomputable def F98:Fn:=⟨35,[4],[],[],0,[],[],Tryz.f98,[.c (.int .i64),.c (.int .i64)],[.c (.bool)],[(114,ZoA.S)]⟩
theorem ZpP:F98.S.Ok Tryz.prog 98:=F98.ok Tryz.func98 (by kernel_rfl) ⟨Zo0,trivial⟩
noncomputable def g98 (a b:Int):Option (Bool):=F98.S.g [.i a,.i b]
theorem Zml (a b:Int):g98 a b =
 (if (cop .eql a 1) then
 if (cop .geq b 6) then
 some ((cop .leq b 40))
 else
 some (false)
 else
 if (cop .eql a 2) then
 if (cop .geq b 12) then
 some ((cop .leq b 40))
 else
 some (false)
 else
 if (cop .geq a 3) then
 if (cop .leq a 6) then
 (Zpa a).bind fun c=>
 some ((cop .eql b c))
 else
 some (false)
 else
 some (false)):=by kernel_rfl
noncomputable def F99:Fn:=⟨23,[4],[],[],0,[],[],Tryz.f99,[.c (.int .i64),.c (.int .i64)],[.c (.bool)],[]⟩
theorem ZpT:F99.S.Ok Tryz.prog 99:=F99.ok Tryz.func99 (by kernel_rfl) trivial
noncomputable def g99 (a b:Int):Option (Bool):=F99.S.g [.i a,.i b]
theorem ZnJ (b a:Int):g99 b a =
 (if (cop .geq a 0) then
 if (cop .eql b 32) then
 if (cop .leq a 1) then
 some (true)
 else
 if (cop .eql b 39) then
 some ((cop .leq a 2))
 else
 some (false)
 else
 if (cop .eql b 39) then
 some ((cop .leq a 2))
 else
 some (false)
 else
 some (false)):=by kernel_rfl
noncomputable def F76:Fn:=⟨64,[2],[],[],0,[],[],Tryz.f76,[.agg hs14],[.c (.bool)],[(98,F98.S),(65,F65.S),(33,F33.S),(99,F99.S)]⟩
theorem Zn0:F76.S.Ok Tryz.prog 76:=F76.ok Tryz.func76 (by kernel_rfl) ⟨ZpP,⟨Zp2,⟨Zl9,⟨ZpT,trivial⟩⟩⟩⟩
noncomputable def g76 (a c d e f h:Int) (j:Bool):Option (Bool):=F76.S.g [.i a,.i c,.i d,.i e,.i f,.i h,.b j]
theorem Zop (a g f e c d:Int) (b:Bool):g76 a g f e c d b =
 ((g98 a f).bind fun i=>
 if (!i) then
 some (false)
 else
 (g65 a g f e c d b).bind fun h=>
 (g33 h.1 h.2).bind fun j=>
 if (!j) then
 some (false)
 else
 if (cop .lss e 0) then
 some (false)
 else
 if (cop .gtr e 7) then
 some (false)
 else
 if (cop .eql a 3) then
 (g99 c d).bind fun k=>
 if (!k) then
 some (false)
 else
 if (cop .neq a 3) then
 if (cop .neq c 0) then
 some (false)
 else
 if (cop .neq d 0) then
 some (false)
 else
 if (!b) then
 some (true)
 else
 if (cop .eql a 1) then
 some (true)
 else
 some ((cop .eql a 2))
 else
 if (!b) then
 some (true)
 else
 if (cop .eql a 1) then
 some (true)
 else
 some ((cop .eql a 2))
 else
 if (cop .neq a 3) then
 if (cop .neq c 0) then
 some (false)
 else
 if (cop .neq d 0) then
 some (false)
 else
 if (!b) then
 some (true)
 else
 if (cop .eql a 1) then
 some (true)
 else
 some ((cop .eql a 2))
 else
 if (!b) then
 some (true)
 else
 if (cop .eql a 1) then
 some (true)
 else
 some ((cop .eql a 2))):=by kernel_rfl
noncomputable def F71:Fn:=⟨20,[4],[(2,[(0,.c (.slice 4)),(1,.c (.int .i64)),(5,.c (.int .i64))])],[],0,[],[],Tryz.f71,[.c (.slice 4),.c (.int .i64)],[.c (.int .i64)],[]⟩
theorem Zor:F71.S.Ok Tryz.prog 71:=F71.ok Tryz.func71 (by kernel_rfl) trivial
noncomputable def g71 (a:LL) (b:Int):Option (Int):=F71.S.g [.l a,.i b]
noncomputable def ZiZ (k:Nat) (a:LL) (b c:Int):Option (Int):=F71.lp [0] 0 r0 k [.l a,.i b,.i c]
theorem Zi8 (k:Nat) (b:LL) (c a:Int):ZiZ (k+1) b c a =
 (if (cop .lss a (List.length b:Int)) then
 Zj b a [.int .i64,.int .i64,.int .i64,.slice 6] fun (d:Int×Int×Int×LL)=>
 if (cop .eql d.1 c) then
 some (a)
 else
 ZiZ k b c (iop .add .i64 a 1)
 else
 some ((-1))):=by kernel_rfl
theorem Zmx (a:LL) (b:Int):g71 a b =
 (ZiZ ZZ a b 0):=by kernel_rfl
noncomputable def F69:Fn:=⟨40,[4],[],[],0,[],[],Tryz.f69,[.c (.slice 4),.agg hs14],[.c (.bool)],[(76,F76.S),(71,F71.S)]⟩
theorem ZpZ:F69.S.Ok Tryz.prog 69:=F69.ok Tryz.func69 (by kernel_rfl) ⟨Zn0,⟨Zor,trivial⟩⟩
noncomputable def g69 (a:LL) (c d e f h j:Int) (k:Bool):Option (Bool):=F69.S.g [.l a,.i c,.i d,.i e,.i f,.i h,.i j,.b k]
theorem ZmA (a:LL) (b c g h d e:Int) (i:Bool):g69 a b c g h d e i =
 ((g76 b c g h d e i).bind fun j=>
 if (!j) then
 some (false)
 else
 if (cop .neq b 3) then
 some (false)
 else
 (g71 a c).bind fun f=>
 if (cop .lss f 0) then
 some (true)
 else
 Zj a f [.int .i64,.int .i64,.int .i64,.slice 6] fun (k:Int×Int×Int×LL)=>
 if (cop .eql k.2.1 d) then
 Zj a f [.int .i64,.int .i64,.int .i64,.slice 6] fun (l:Int×Int×Int×LL)=>
 some ((cop .eql l.2.2.1 e))
 else
 some (false)):=by kernel_rfl
noncomputable def F72:Fn:=⟨22,[4],[(2,[(1,.c (.int .i64)),(2,.box [.int .i64,.int .i64,.int .i64,.slice 6]),(5,.c (.int .i64))])],[],0,[],[],Tryz.f72,[.agg [.int .i64,.int .i64,.int .i64,.slice 6],.c (.int .i64)],[.c (.int .i64)],[]⟩
theorem Zpt:F72.S.Ok Tryz.prog 72:=F72.ok Tryz.func72 (by kernel_rfl) trivial
noncomputable def g72 (a b c:Int) (d:LL) (e:Int):Option (Int):=F72.S.g [.i a,.i b,.i c,.l d,.i e]
noncomputable def Zjq (k:Nat) (a b c d:Int) (e:LL) (f:Int):Option (Int):=F72.lp [0] 0 r0 k [.i a,.i b,.i c,.i d,.l e,.i f]
theorem ZjO (k:Nat) (c d e f:Int) (b:LL) (a:Int):Zjq (k+1) c d e f b a =
 (if (cop .lss a (List.length b:Int)) then
 Zj b a hs17 fun (g:Qt26)=>
 if (cop .eql g.1 c) then
 some (a)
 else
 Zjq k c d e f b (iop .add .i64 a 1)
 else
 some ((-1))):=by kernel_rfl
theorem ZnE (a b c:Int) (d:LL) (e:Int):g72 a b c d e =
 (Zjq ZZ e a b c d 0):=by kernel_rfl
noncomputable def F73:Fn:=⟨25,[2],[(3,[(0,.c (.slice 4)),(3,.c (.own true 134)),(4,.c (.int .i64))])],[],0,[2,3,18,23],[(7,[(5,4)])],Tryz.f73,[.c (.slice 4)],[.c (.own true 134)],[]⟩
theorem ZpL:F73.S.Ok Tryz.prog 73:=F73.ok Tryz.func73 (by kernel_rfl) trivial
noncomputable def g73 (a:LL):Option (LL):=F73.S.g [.l a]
noncomputable def ZiV (k:Nat) (a b:LL) (c:Int):Option (LL):=F73.lp [0] 0 r0 k [.l a,.l b,.i c]
theorem Zj2 (k:Nat) (b c:LL) (d:Int):ZiV (k+1) b c d =
 (if (cop .lss d (List.length b:Int)) then
 Zj b d [.int .i64,.int .i64,.int .i64,.slice 6] fun (a:Int×Int×Int×LL)=>
 Zi (Z5 E0 a.2.2.2 48)<|
 Zi (Z5 c (E0++[[AV.val (.int .i64 a.1),AV.val (.int .i64 a.2.1),AV.val (.int .i64 a.2.2.1),AV.slice false 6 a.2.2.2]]) 48)<|
 ZiV k b (c++(E0++[[AV.val (.int .i64 a.1),AV.val (.int .i64 a.2.1),AV.val (.int .i64 a.2.2.1),AV.slice false 6 a.2.2.2]])) (iop .add .i64 d 1)
 else
 some (c)):=by kernel_rfl
theorem Zn2 (a:LL):g73 a =
 (ZiV ZZ a E0 0):=by kernel_rfl
noncomputable def F42:Fn:=⟨106,[6,7,8],[],[],0,[],[(14,[(12,0)])],Tryz.f42,[.c (.slice 4),.agg hs14,.c (.int .i64)],[.c (.slice 4),.agg [.int .i64,.int .i64,.int .i64],.c (.int .i64)],[(68,F68.S),(69,F69.S),(70,F70.S),(71,F71.S),(72,F72.S),(73,F73.S)]⟩
theorem ZqF:F42.S.Ok Tryz.prog 42:=F42.ok Tryz.func42 (by kernel_rfl) ⟨Zo9,⟨ZpZ,⟨ZoC,⟨Zor,⟨Zpt,⟨ZpL,trivial⟩⟩⟩⟩⟩⟩
noncomputable def g42 (a:LL) (c d e f h j:Int) (k:Bool) (m:Int):Option (LL×Int×Int×Int×Int):=F42.S.g [.l a,.i c,.i d,.i e,.i f,.i h,.i j,.b k,.i m]
theorem ZnC (f:LL) (m k n o l p:Int) (q:Bool) (h:Int):g42 f m k n o l p q h =
 ((g68 f).bind fun s=>
 if (!s) then
 some (E0,0,0,0,1)
 else
 (g69 f m k n o l p q).bind fun t=>
 if (!t) then
 some (E0,0,0,0,5)
 else
 if (cop .lss h 0) then
 some (E0,0,0,0,6)
 else
 (g70 l).bind fun r=>
 Zi ((0:Int)≤(IntKind.wrap .u64 r))<|
 if (cop .geq h (iop .shl .i64 1 (IntKind.wrap .u64 r))) then
 some (E0,0,0,0,6)
 else
 (g71 f k).bind fun a=>
 if (cop .lss a 0) then
 some (E0,0,0,0,13)
 else
 Zj f a [.int .i64,.int .i64,.int .i64,.slice 6] fun (i:Int×Int×Int×LL)=>
 (g72 i.1 i.2.1 i.2.2.1 i.2.2.2 h).bind fun u=>
 if (cop .lss u 0) then
 some (E0,0,0,0,13)
 else
 Zj f a [.int .i64,.int .i64,.int .i64,.slice 6] fun (j:Int×Int×Int×LL)=>
 (g72 j.1 j.2.1 j.2.2.1 j.2.2.2 h).bind fun b=>
 Zj f a [.int .i64,.int .i64,.int .i64,.slice 6] fun (v:Int×Int×Int×LL)=>
 Zj v.2.2.2 b hs17 fun (g:Qt26)=>
 (g73 f).bind fun d=>
 Zj f a [.int .i64,.int .i64,.int .i64,.slice 6] fun (c:Int×Int×Int×LL)=>
 Zi ((0:Int)≤b)<|
 Zi ((b:Int)≤(List.length c.2.2.2:Int))<|
 Zi (Z5 E0 (List.take (Int.toNat b) c.2.2.2) 48)<|
 Zj f a [.int .i64,.int .i64,.int .i64,.slice 6] fun (e:Int×Int×Int×LL)=>
 Zi ((0:Int)≤(iop .add .i64 b 1))<|
 Zi (((iop .add .i64 b 1):Int)≤(List.length e.2.2.2:Int))<|
 Zi (Z5 (List.take (Int.toNat b) c.2.2.2) (List.drop (Int.toNat (iop .add .i64 b 1)) e.2.2.2) 48)<|
 Zi ((0:Int)≤a)<|
 Zi ((a:Int) < (List.length d:Int))<|
 Zi ((0:Int)≤a)<|
 Zi ((a:Int) < (List.length d:Int))<|
 Zj (Zp d (Int.toNat a) 3 [AV.slice false 6 ((List.take (Int.toNat b) c.2.2.2)++(List.drop (Int.toNat (iop .add .i64 b 1)) e.2.2.2))]) a [.int .i64,.int .i64,.int .i64,.slice 6] fun (w:Int×Int×Int×LL)=>
 if (cop .eql (List.length w.2.2.2:Int) 0) then
 Zi ((0:Int)≤a)<|
 Zi ((a:Int)≤(List.length (Zp d (Int.toNat a) 3 [AV.slice false 6 ((List.take (Int.toNat b) c.2.2.2)++(List.drop (Int.toNat (iop .add .i64 b 1)) e.2.2.2))]):Int))<|
 Zi (Z5 E0 (List.take (Int.toNat a) (Zp d (Int.toNat a) 3 [AV.slice false 6 ((List.take (Int.toNat b) c.2.2.2)++(List.drop (Int.toNat (iop .add .i64 b 1)) e.2.2.2))])) 48)<|
 Zi ((0:Int)≤(iop .add .i64 a 1))<|
 Zi (((iop .add .i64 a 1):Int)≤(List.length (Zp d (Int.toNat a) 3 [AV.slice false 6 ((List.take (Int.toNat b) c.2.2.2)++(List.drop (Int.toNat (iop .add .i64 b 1)) e.2.2.2))]):Int))<|
 Zi (Z5 (List.take (Int.toNat a) (Zp d (Int.toNat a) 3 [AV.slice false 6 ((List.take (Int.toNat b) c.2.2.2)++(List.drop (Int.toNat (iop .add .i64 b 1)) e.2.2.2))])) (List.drop (Int.toNat (iop .add .i64 a 1)) (Zp d (Int.toNat a) 3 [AV.slice false 6 ((List.take (Int.toNat b) c.2.2.2)++(List.drop (Int.toNat (iop .add .i64 b 1)) e.2.2.2))])) 48)<|
 some (((List.take (Int.toNat a) (Zp d (Int.toNat a) 3 [AV.slice false 6 ((List.take (Int.toNat b) c.2.2.2)++(List.drop (Int.toNat (iop .add .i64 b 1)) e.2.2.2))]))++(List.drop (Int.toNat (iop .add .i64 a 1)) (Zp d (Int.toNat a) 3 [AV.slice false 6 ((List.take (Int.toNat b) c.2.2.2)++(List.drop (Int.toNat (iop .add .i64 b 1)) e.2.2.2))]))),g.2.2.2.1,g.2.2.2.2.1,g.2.2.2.2.2,0)
 else
 some ((Zp d (Int.toNat a) 3 [AV.slice false 6 ((List.take (Int.toNat b) c.2.2.2)++(List.drop (Int.toNat (iop .add .i64 b 1)) e.2.2.2))]),g.2.2.2.1,g.2.2.2.2.1,g.2.2.2.2.2,0)):=by kernel_rfl
noncomputable def F74:Fn:=⟨53,[2],[(4,[(1,.box hs6),(3,.c (.int .i64))])],[],0,[],[],Tryz.f74,[.agg hs6],[.c (.bool)],[(97,F97.S),(76,F76.S),(84,F84.S)]⟩
theorem ZpF:F74.S.Ok Tryz.prog 74:=F74.ok Tryz.func74 (by kernel_rfl) ⟨ZoV,⟨Zn0,⟨ZoJ,trivial⟩⟩⟩
noncomputable def g74 (a c d:Int) (e:LL) (f h j k m n:Int) (o:Bool):Option (Bool):=F74.S.g [.i a,.i c,.i d,.l e,.i f,.i h,.i j,.i k,.i m,.i n,.b o]
noncomputable def ZjR (k:Nat) (a c d:Int) (e:LL) (f g h j m n:Int) (o:Bool) (p:Int):Option (Bool):=F74.lp [0,1,0,1,1,0,1,0] 0 r0 k [.i a,.i c,.i d,.l e,.i f,.i g,.i h,.i j,.i m,.i n,.b o,.i p]
theorem Zfx (k:Nat) (e f g:Int) (b:LL) (h i j l m n:Int) (o:Bool) (a:Int):ZjR (k+1) e f g b h i j l m n o a =
 (if (cop .lss a (List.length b:Int)) then
 Zj b a [.int .i64,.int .i64,.int .i64] fun (c:Int×Int×Int)=>
 (g97 c.1 c.2.1 c.2.2).bind fun p=>
 if (!p) then
 some (false)
 else
 Zi ((0:Int)≤a)<|
 Zi ((a:Int)≤(List.length b:Int))<|
 Zj b a [.int .i64,.int .i64,.int .i64] fun (d:Int×Int×Int)=>
 (g84 (List.take (Int.toNat a) b) d.1 d.2.1 d.2.2).bind fun q=>
 if q then
 some (false)
 else
 ZjR k e f g b h i j l m n o (iop .add .i64 a 1)
 else
 some (true)):=by kernel_rfl
theorem Znc (a b c:Int) (d:LL) (e f g h i j:Int) (k:Bool):g74 a b c d e f g h i j k =
 ((g97 a b c).bind fun l=>
 if (!l) then
 some (false)
 else
 (g76 e f g h i j k).bind fun m=>
 if (!m) then
 some (false)
 else
 if (cop .gtr (List.length d:Int) 8) then
 some (false)
 else
 (g84 d a b c).bind fun n=>
 if n then
 some (false)
 else
 ZjR ZZ a b c d e f g h i j k 0):=by kernel_rfl
noncomputable def F75:Fn:=⟨34,[4],[],[],0,[],[],Tryz.f75,[.agg hs14,.agg hs14],[.c (.bool)],[]⟩
theorem ZqD:F75.S.Ok Tryz.prog 75:=F75.ok Tryz.func75 (by kernel_rfl) trivial
noncomputable def g75 (a c d e f h:Int) (j:Bool) (k l m n o p:Int) (q:Bool):Option (Bool):=F75.S.g [.i a,.i c,.i d,.i e,.i f,.i h,.b j,.i k,.i l,.i m,.i n,.i o,.i p,.b q]
theorem ZmW (g h i j c a:Int) (k:Bool) (b l d m e f:Int) (n:Bool):g75 g h i j c a k b l d m e f n =
 (if (cop .eql a 0) then
 if (cop .eql b 2) then
 some ((cop .eql d 12))
 else
 some (false)
 else
 if (cop .eql b 3) then
 if (cop .eql e c) then
 some ((cop .eql f (iop .sub .i64 a 1)))
 else
 some (false)
 else
 some (false)):=by kernel_rfl
noncomputable def F43:Fn:=⟨166,[10,11],[(14,[(6,.box hs14),(12,.box hs17),(13,.c (.slice 4)),(15,.c (.int .i64))]),(23,[(2,.c (.int .i64)),(12,.box hs17),(13,.c (.own true 134)),(14,.c (.int .i64)),(18,.c (.slice 6)),(19,.c (.int .i64))])],[],0,[],[(13,[(13,0)]),(28,[(13,0)])],Tryz.f43,[.c (.slice 4),.agg hs14,.c (.int .i64),.agg hs6,.c (.int .i64)],[.c (.slice 4),.c (.int .i64)],[(68,F68.S),(74,F74.S),(69,F69.S),(75,F75.S),(70,F70.S),(73,F73.S),(71,F71.S),(72,F72.S)]⟩
theorem ZqM:F43.S.Ok Tryz.prog 43:=F43.ok Tryz.func43 (by kernel_rfl) ⟨Zo9,⟨ZpF,⟨ZpZ,⟨ZqD,⟨ZoC,⟨ZpL,⟨Zor,⟨Zpt,trivial⟩⟩⟩⟩⟩⟩⟩⟩
noncomputable def g43 (a:LL) (c d e f h j:Int) (k:Bool) (m n o p:Int) (q:LL) (r s t u v w:Int) (x:Bool) (y:Int):Option (LL×Int):=F43.S.g [.l a,.i c,.i d,.i e,.i f,.i h,.i j,.b k,.i m,.i n,.i o,.i p,.l q,.i r,.i s,.i t,.i u,.i v,.i w,.b x,.i y]
noncomputable def Zgi (k:Nat) (a c d e f g:Int) (h:Bool) (j m n o p q:Int) (r:LL) (s:Int):Option (LL×Int):=F43.lp [0,1,0,1,1,1,0,1,0,1,1,2,1,0,3,0] 0 r0 k [.i a,.i c,.i d,.i e,.i f,.i g,.b h,.i j,.i m,.i n,.i o,.i p,.i q,.l r,.i s]
theorem Zjy (k:Nat) (m c n o d e:Int) (p:Bool) (f g h i j l:Int) (b:LL) (a:Int):Zgi (k+1) m c n o d e p f g h i j l b a =
 (if (cop .lss a (List.length b:Int)) then
 Zj b a [.int .i64,.int .i64,.int .i64,.slice 6] fun (q:Int×Int×Int×LL)=>
 if (cop .lss q.1 c) then
 Zgi k m c n o d e p f g h i j l b (iop .add .i64 a 1)
 else
 Zi ((0:Int)≤a)<|
 Zi ((a:Int)≤(List.length b:Int))<|
 Zi (Z5 E0 (List.take (Int.toNat a) b) 48)<|
 Zi (Z5 (List.take (Int.toNat a) b) (E0++[[AV.val (.int .i64 c),AV.val (.int .i64 d),AV.val (.int .i64 e),AV.slice false 6 (E0++[[AV.val (.int .i64 f),AV.val (.int .i64 g),AV.val (.int .i64 h),AV.val (.int .i64 i),AV.val (.int .i64 j),AV.val (.int .i64 l)]])]]) 48)<|
 Zi ((0:Int)≤a)<|
 Zi ((a:Int)≤(List.length b:Int))<|
 Zi (Z5 ((List.take (Int.toNat a) b)++(E0++[[AV.val (.int .i64 c),AV.val (.int .i64 d),AV.val (.int .i64 e),AV.slice false 6 (E0++[[AV.val (.int .i64 f),AV.val (.int .i64 g),AV.val (.int .i64 h),AV.val (.int .i64 i),AV.val (.int .i64 j),AV.val (.int .i64 l)]])]])) (List.drop (Int.toNat a) b) 48)<|
 some ((((List.take (Int.toNat a) b)++(E0++[[AV.val (.int .i64 c),AV.val (.int .i64 d),AV.val (.int .i64 e),AV.slice false 6 (E0++[[AV.val (.int .i64 f),AV.val (.int .i64 g),AV.val (.int .i64 h),AV.val (.int .i64 i),AV.val (.int .i64 j),AV.val (.int .i64 l)]])]]))++(List.drop (Int.toNat a) b)),0)
 else
 Zi ((0:Int)≤a)<|
 Zi ((a:Int)≤(List.length b:Int))<|
 Zi (Z5 E0 (List.take (Int.toNat a) b) 48)<|
 Zi (Z5 (List.take (Int.toNat a) b) (E0++[[AV.val (.int .i64 c),AV.val (.int .i64 d),AV.val (.int .i64 e),AV.slice false 6 (E0++[[AV.val (.int .i64 f),AV.val (.int .i64 g),AV.val (.int .i64 h),AV.val (.int .i64 i),AV.val (.int .i64 j),AV.val (.int .i64 l)]])]]) 48)<|
 Zi ((0:Int)≤a)<|
 Zi ((a:Int)≤(List.length b:Int))<|
 Zi (Z5 ((List.take (Int.toNat a) b)++(E0++[[AV.val (.int .i64 c),AV.val (.int .i64 d),AV.val (.int .i64 e),AV.slice false 6 (E0++[[AV.val (.int .i64 f),AV.val (.int .i64 g),AV.val (.int .i64 h),AV.val (.int .i64 i),AV.val (.int .i64 j),AV.val (.int .i64 l)]])]])) (List.drop (Int.toNat a) b) 48)<|
 some ((((List.take (Int.toNat a) b)++(E0++[[AV.val (.int .i64 c),AV.val (.int .i64 d),AV.val (.int .i64 e),AV.slice false 6 (E0++[[AV.val (.int .i64 f),AV.val (.int .i64 g),AV.val (.int .i64 h),AV.val (.int .i64 i),AV.val (.int .i64 j),AV.val (.int .i64 l)]])]]))++(List.drop (Int.toNat a) b)),0)):=by kernel_rfl
noncomputable def Zf1 (k:Nat) (a b c d e f g:Int) (h:LL) (j:Int) (m:LL) (n:Int):Option (LL×Int):=F43.lp [0,1,0,1,1,1,0,1,0,1,1,2,1,0,2,1,4,1,4] 0 r0 k [.i a,.i b,.i c,.i d,.i e,.i f,.i g,.l h,.i j,.l m,.i n]
theorem Zi4 (k:Nat) (l d e f g h i:Int) (j:LL) (c:Int) (b:LL) (a:Int):Zf1 (k+1) l d e f g h i j c b a =
 (if (cop .lss a (List.length b:Int)) then
 Zj b a hs17 fun (m:Qt26)=>
 if (cop .lss m.1 l) then
 Zf1 k l d e f g h i j c b (iop .add .i64 a 1)
 else
 Zi ((0:Int)≤a)<|
 Zi ((a:Int)≤(List.length b:Int))<|
 Zi (Z5 E0 (List.take (Int.toNat a) b) 48)<|
 Zi (Z5 (List.take (Int.toNat a) b) (E0++[[AV.val (.int .i64 d),AV.val (.int .i64 e),AV.val (.int .i64 f),AV.val (.int .i64 g),AV.val (.int .i64 h),AV.val (.int .i64 i)]]) 48)<|
 Zi ((0:Int)≤a)<|
 Zi ((a:Int)≤(List.length b:Int))<|
 Zi (Z5 ((List.take (Int.toNat a) b)++(E0++[[AV.val (.int .i64 d),AV.val (.int .i64 e),AV.val (.int .i64 f),AV.val (.int .i64 g),AV.val (.int .i64 h),AV.val (.int .i64 i)]])) (List.drop (Int.toNat a) b) 48)<|
 Zi ((0:Int)≤c)<|
 Zi ((c:Int) < (List.length j:Int))<|
 Zi ((0:Int)≤c)<|
 Zi ((c:Int) < (List.length j:Int))<|
 some ((Zp j (Int.toNat c) 3 [AV.slice false 6 (((List.take (Int.toNat a) b)++(E0++[[AV.val (.int .i64 d),AV.val (.int .i64 e),AV.val (.int .i64 f),AV.val (.int .i64 g),AV.val (.int .i64 h),AV.val (.int .i64 i)]]))++(List.drop (Int.toNat a) b))]),0)
 else
 Zi ((0:Int)≤a)<|
 Zi ((a:Int)≤(List.length b:Int))<|
 Zi (Z5 E0 (List.take (Int.toNat a) b) 48)<|
 Zi (Z5 (List.take (Int.toNat a) b) (E0++[[AV.val (.int .i64 d),AV.val (.int .i64 e),AV.val (.int .i64 f),AV.val (.int .i64 g),AV.val (.int .i64 h),AV.val (.int .i64 i)]]) 48)<|
 Zi ((0:Int)≤a)<|
 Zi ((a:Int)≤(List.length b:Int))<|
 Zi (Z5 ((List.take (Int.toNat a) b)++(E0++[[AV.val (.int .i64 d),AV.val (.int .i64 e),AV.val (.int .i64 f),AV.val (.int .i64 g),AV.val (.int .i64 h),AV.val (.int .i64 i)]])) (List.drop (Int.toNat a) b) 48)<|
 Zi ((0:Int)≤c)<|
 Zi ((c:Int) < (List.length j:Int))<|
 Zi ((0:Int)≤c)<|
 Zi ((c:Int) < (List.length j:Int))<|
 some ((Zp j (Int.toNat c) 3 [AV.slice false 6 (((List.take (Int.toNat a) b)++(E0++[[AV.val (.int .i64 d),AV.val (.int .i64 e),AV.val (.int .i64 f),AV.val (.int .i64 g),AV.val (.int .i64 h),AV.val (.int .i64 i)]]))++(List.drop (Int.toNat a) b))]),0)):=by kernel_rfl
theorem ZnG (l:LL) (m e n o g h:Int) (p:Bool) (c i j k:Int) (z:LL) (s f t q u v:Int) (w:Bool) (r:Int):g43 l m e n o g h p c i j k z s f t q u v w r =
 ((g68 l).bind fun C=>
 if (!C) then
 some (E0,1)
 else
 (g74 i j k z s f t q u v w).bind fun D=>
 if (!D) then
 some (E0,1)
 else
 if (cop .lss r 0) then
 some (E0,1)
 else
 if (cop .gtr r 7) then
 some (E0,1)
 else
 (g69 l m e n o g h p).bind fun E=>
 if (!E) then
 some (E0,5)
 else
 (g75 m e n o g h p s f t q u v w).bind fun G=>
 if (!G) then
 some (E0,5)
 else
 if (cop .lss c 0) then
 some (E0,6)
 else
 (g70 g).bind fun A=>
 Zi ((0:Int)≤(IntKind.wrap .u64 A))<|
 if (cop .geq c (iop .shl .i64 1 (IntKind.wrap .u64 A))) then
 some (E0,6)
 else
 if (cop .eql h 0) then
 (g73 l).bind fun b=>
 (g71 b e).bind fun a=>
 if (cop .lss a 0) then
 Zgi ZZ m e n o g h p c f (iop .and .i64 (iop .and .i64 q r) 3) i j k b 0
 else
 Zi ((0:Int)≤a)<|
 Zi ((a:Int) < (List.length b:Int))<|
 Zj b a [.int .i64,.int .i64,.int .i64,.slice 6] fun (d:Int×Int×Int×LL)=>
 (g72 d.1 d.2.1 d.2.2.1 d.2.2.2 c).bind fun x=>
 if (cop .geq x 0) then
 some (E0,12)
 else
 Zi ((0:Int)≤a)<|
 Zi ((a:Int) < (List.length b:Int))<|
 Zj b a [.int .i64,.int .i64,.int .i64,.slice 6] fun (y:Int×Int×Int×LL)=>
 Zf1 ZZ c c f (iop .and .i64 (iop .and .i64 q r) 3) i j k b a y.2.2.2 0
 else
 (g73 l).bind fun b=>
 (g71 b e).bind fun a=>
 if (cop .lss a 0) then
 Zgi ZZ m e n o g h p c f 0 i j k b 0
 else
 Zi ((0:Int)≤a)<|
 Zi ((a:Int) < (List.length b:Int))<|
 Zj b a [.int .i64,.int .i64,.int .i64,.slice 6] fun (d:Int×Int×Int×LL)=>
 (g72 d.1 d.2.1 d.2.2.1 d.2.2.2 c).bind fun x=>
 if (cop .geq x 0) then
 some (E0,12)
 else
 Zi ((0:Int)≤a)<|
 Zi ((a:Int) < (List.length b:Int))<|
 Zj b a [.int .i64,.int .i64,.int .i64,.slice 6] fun (y:Int×Int×Int×LL)=>
 Zf1 ZZ c c f 0 i j k b a y.2.2.2 0):=by kernel_rfl
noncomputable def F78:Fn:=⟨22,[4],[],[],0,[],[],Tryz.f78,[.c (.int .i64),.c (.int .i64)],[.c (.bool)],[]⟩
theorem ZpN:F78.S.Ok Tryz.prog 78:=F78.ok Tryz.func78 (by kernel_rfl) trivial
noncomputable def g78 (a b:Int):Option (Bool):=F78.S.g [.i a,.i b]
theorem Zm0 (a b:Int):g78 a b =
 (if (cop .eql a 32) then
 if (cop .geq b 0) then
 Zi ((0:Int)≤(IntKind.wrap .u64 a))<|
 some ((cop .lss b (iop .shl .i64 1 (IntKind.wrap .u64 a))))
 else
 some (false)
 else
 if (cop .eql a 39) then
 if (cop .geq b 0) then
 Zi ((0:Int)≤(IntKind.wrap .u64 a))<|
 some ((cop .lss b (iop .shl .i64 1 (IntKind.wrap .u64 a))))
 else
 some (false)
 else
 some (false)):=by kernel_rfl
noncomputable def F79:Fn:=⟨41,[6],[(5,[(0,.c (.int .i64)),(1,.c (.int .i64)),(7,.c (.int .i64)),(8,.c (.int .i64))])],[],0,[],[],Tryz.f79,[.c (.int .i64),.c (.int .i64),.c (.int .i64)],[.c (.int .i64)],[(78,F78.S),(77,F77.S),(70,F70.S)]⟩
theorem ZqA:F79.S.Ok Tryz.prog 79:=F79.ok Tryz.func79 (by kernel_rfl) ⟨ZpN,⟨Zpc,⟨ZoC,trivial⟩⟩⟩
noncomputable def g79 (a b c:Int):Option (Int):=F79.S.g [.i a,.i b,.i c]
noncomputable def ZjC (k:Nat) (a b c d:Int):Option (Int):=F79.lp [0,1,1,0,1,2] 0 r0 k [.i a,.i b,.i c,.i d]
theorem Zjg (k:Nat) (b c d e:Int):ZjC (k+1) b c d e =
 (if (cop .lss e c) then
 (g70 b).bind fun a=>
 Zi ((0:Int)≤(IntKind.wrap .u64 a))<|
 ZjC k b c (iop .shr .i64 d (IntKind.wrap .u64 a)) (iop .add .i64 e 1)
 else
 (g70 b).bind fun a=>
 Zi ((0:Int)≤(IntKind.wrap .u64 a))<|
 Zi (((iop .shl .i64 1 (IntKind.wrap .u64 a)):Int)≠0)<|
 some ((iop .rem .i64 d (iop .shl .i64 1 (IntKind.wrap .u64 a))))):=by kernel_rfl
theorem ZnB (a b c:Int):g79 a b c =
 ((g78 a c).bind fun d=>
 if (!d) then
 some (0)
 else
 if (cop .lss b 0) then
 some (0)
 else
 (g77 a).bind fun e=>
 if (cop .geq b e) then
 some (0)
 else
 Zi ((4096:Int)≠0)<|
 ZjC ZZ a b (iop .quo .i64 c 4096) 0):=by kernel_rfl
noncomputable def F44:Fn:=⟨129,[6,7],[(10,[(0,.c (.slice 4)),(2,.c (.int .i64)),(4,.box hs14),(6,.box hs18),(8,.box hs18),(9,.c (.int .i64)),(10,.c (.int .i64))])],[],0,[],[],Tryz.f44,[.c (.slice 4),.agg hs14,.c (.int .i64)],[.agg hs18,.c (.int .i64)],[(68,F68.S),(76,F76.S),(77,F77.S),(78,F78.S),(71,F71.S),(79,F79.S),(72,F72.S),(80,F80.S)]⟩
theorem Zqo:F44.S.Ok Tryz.prog 44:=F44.ok Tryz.func44 (by kernel_rfl) ⟨Zo9,⟨Zn0,⟨Zpc,⟨ZpN,⟨Zor,⟨ZqA,⟨Zpt,⟨Zpd,trivial⟩⟩⟩⟩⟩⟩⟩⟩
noncomputable def g44 (a:LL) (c d e f h j:Int) (k:Bool) (m:Int):Option (Qt25):=F44.S.g [.l a,.i c,.i d,.i e,.i f,.i h,.i j,.b k,.i m]
noncomputable def Zkq (k:Nat) (a:LL) (c d e f g h j:Int) (m:Bool) (n o p q:Int) (r s:LL) (t u v w:Int) (x y:LL) (z A:Int):Option (Qt25):=F44.lp [0,1,0,1,1,0,1,0,1,2] 0 r0 k [.l a,.i c,.i d,.i e,.i f,.i g,.i h,.i j,.b m,.i n,.i o,.i p,.i q,.l r,.l s,.i t,.i u,.i v,.i w,.l x,.l y,.i z,.i A]
theorem ZfR (k:Nat) (b:LL) (i n o p q f r:Int) (s:Bool) (t u v w:Int) (x y:LL) (j l z A:Int) (m c:LL) (g d:Int):Zkq (k+1) b i n o p q f r s t u v w x y j l z A m c g d =
 (if (cop .geq d 0) then
 (g71 b g).bind fun e=>
 if (cop .lss e 0) then
 some (0,0,0,0,E0,E0,13)
 else
 Zj b e [.int .i64,.int .i64,.int .i64,.slice 6] fun (E:Int×Int×Int×LL)=>
 if (cop .neq E.2.1 f) then
 some (0,0,0,0,E0,E0,13)
 else
 Zj b e [.int .i64,.int .i64,.int .i64,.slice 6] fun (G:Int×Int×Int×LL)=>
 if (cop .neq G.2.2.1 d) then
 some (0,0,0,0,E0,E0,13)
 else
 Zj b e [.int .i64,.int .i64,.int .i64,.slice 6] fun (h:Int×Int×Int×LL)=>
 (g79 f d i).bind fun H=>
 (g72 h.1 h.2.1 h.2.2.1 h.2.2.2 H).bind fun C=>
 if (cop .lss C 0) then
 some (0,0,0,0,E0,E0,13)
 else
 Zj b e [.int .i64,.int .i64,.int .i64,.slice 6] fun (J:Int×Int×Int×LL)=>
 Zj J.2.2.2 C hs17 fun (a:Qt26)=>
 (g80 m).bind fun D=>
 Zi (Z5 D (E0++[[AV.val (.int .i64 a.2.2.2.1),AV.val (.int .i64 a.2.2.2.2.1),AV.val (.int .i64 a.2.2.2.2.2)]]) 24)<|
 Zi (Z5 E0 c 8)<|
 Zi (Z5 c (E0++[[AV.val (.int .i64 g)]]) 8)<|
 Zkq k b i n o p q f r s t u v w x y j l a.2.1 a.2.2.1 (D++(E0++[[AV.val (.int .i64 a.2.2.2.1),AV.val (.int .i64 a.2.2.2.2.1),AV.val (.int .i64 a.2.2.2.2.2)]])) (c++(E0++[[AV.val (.int .i64 g)]])) a.2.1 (iop .sub .i64 d 1)
 else
 some (j,l,z,A,m,c,0)):=by kernel_rfl
theorem Zol (f:LL) (d a g h b c:Int) (i:Bool) (e:Int):g44 f d a g h b c i e =
 ((g68 f).bind fun j=>
 if (!j) then
 some (0,0,0,0,E0,E0,1)
 else
 (g76 d a g h b c i).bind fun k=>
 if (!k) then
 some (0,0,0,0,E0,E0,5)
 else
 if (cop .neq d 3) then
 some (0,0,0,0,E0,E0,5)
 else
 (g77 b).bind fun l=>
 if (cop .neq c (iop .sub .i64 l 1)) then
 some (0,0,0,0,E0,E0,5)
 else
 (g78 b e).bind fun m=>
 if (!m) then
 some (0,0,0,0,E0,E0,6)
 else
 Zi ((4096:Int)≠0)<|
 Zkq ZZ f e d a g h b c i 0 0 0 0 E0 E0 a (iop .quo .i64 e 4096) 0 0 E0 E0 a c):=by kernel_rfl
noncomputable def F15:Fn:=⟨25,[4],[],[0],0,[],[],Tryz.f15,[.box hs7,.c (.int .i64)],[.c (.bool)],[]⟩
theorem ZpI:F15.S.Ok Tryz.prog 15:=F15.ok Tryz.func15 (by kernel_rfl) trivial
noncomputable def g15 (a:LL) (b c:Int) (d e f h j k m:LL) (n:Int):Option (Qt20):=F15.S.g [.l a,.i b,.i c,.l d,.l e,.l f,.l h,.l j,.l k,.l m,.i n]
theorem ZmR (c:LL) (d e:Int) (f g h i a j k:LL) (b:Int):g15 c d e f g h i a j k b =
 (if (cop .geq b 0) then
 if (cop .lss b (List.length a:Int)) then
 Zi ((0:Int)≤b)<|
 Zi ((b:Int) < (List.length a:Int))<|
 Zj a b [.bool] fun (l:Bool)=>
 some (l,c,d,e,f,g,h,i,a,j,k)
 else
 some (false,c,d,e,f,g,h,i,a,j,k)
 else
 some (false,c,d,e,f,g,h,i,a,j,k)):=by kernel_rfl
noncomputable def F36:Fn:=⟨16,[4],[],[0],0,[],[],Tryz.f36,[.box hs7,.c (.int .i64)],[.c (.bool)],[]⟩
theorem Zm3:F36.S.Ok Tryz.prog 36:=F36.ok Tryz.func36 (by kernel_rfl) trivial
noncomputable def g36 (a:LL) (b c:Int) (d e f h j k m:LL) (n:Int):Option (Qt20):=F36.S.g [.l a,.i b,.i c,.l d,.l e,.l f,.l h,.l j,.l k,.l m,.i n]
theorem Zmi (b:LL) (c a:Int) (d e f g h i j:LL) (k:Int):g36 b c a d e f g h i j k =
 (if (cop .geq k 0) then
 some ((cop .lss k a),b,c,a,d,e,f,g,h,i,j)
 else
 some (false,b,c,a,d,e,f,g,h,i,j)):=by kernel_rfl
noncomputable def F67:Fn:=⟨31,[6],[(2,[(0,.c (.slice 13)),(1,.c (.int .i64)),(2,.c (.int .i64)),(7,.c (.int .i64))])],[],0,[],[],Tryz.f67,[.c (.slice 13),.c (.int .i64),.c (.int .i64)],[.c (.int .i64)],[]⟩
theorem ZpK:F67.S.Ok Tryz.prog 67:=F67.ok Tryz.func67 (by kernel_rfl) trivial
noncomputable def g67 (a:LL) (b c:Int):Option (Int):=F67.S.g [.l a,.i b,.i c]
noncomputable def ZeP (k:Nat) (a:LL) (b c d:Int):Option (Int):=F67.lp [0] 0 r0 k [.l a,.i b,.i c,.i d]
theorem ZfO (k:Nat) (b:LL) (c d a:Int):ZeP (k+1) b c d a =
 (if (cop .lss a (List.length b:Int)) then
 Zj b a hs3 fun (e:Qt13)=>
 if (cop .eql e.1 c) then
 Zj b a hs3 fun (f:Qt13)=>
 if (cop .eql f.2.1 d) then
 some (a)
 else
 ZeP k b c d (iop .add .i64 a 1)
 else
 ZeP k b c d (iop .add .i64 a 1)
 else
 some ((-1))):=by kernel_rfl
theorem Zme (a:LL) (b c:Int):g67 a b c =
 (ZeP ZZ a b c 0):=by kernel_rfl
noncomputable def F41:Fn:=⟨28,[6,7],[],[0],0,[],[],Tryz.f41,[.box hs7,.c (.int .i64),.c (.int .i64)],[.agg hs6,.c (.bool)],[(67,F67.S),(51,F51.S)]⟩
theorem ZmZ:F41.S.Ok Tryz.prog 41:=F41.ok Tryz.func41 (by kernel_rfl) ⟨ZpK,⟨ZoR,trivial⟩⟩
noncomputable def g41 (a:LL) (b c:Int) (d e f h j k m:LL) (n o:Int):Option (Qt5):=F41.S.g [.l a,.i b,.i c,.l d,.l e,.l f,.l h,.l j,.l k,.l m,.i n,.i o]
theorem Zmj (d:LL) (e f:Int) (g h c i j k l:LL) (m n:Int):g41 d e f g h c i j k l m n =
 ((g67 c m n).bind fun o=>
 if (cop .lss o 0) then
 some (0,0,0,E0,0,0,0,0,0,0,false,false,d,e,f,g,h,c,i,j,k,l)
 else
 Zj c o hs3 fun (a:Qt13)=>
 (g51 a.2.2.1 a.2.2.2.1 a.2.2.2.2.1 a.2.2.2.2.2.1 a.2.2.2.2.2.2.1 a.2.2.2.2.2.2.2.1 a.2.2.2.2.2.2.2.2.1 a.2.2.2.2.2.2.2.2.2.1 a.2.2.2.2.2.2.2.2.2.2.1 a.2.2.2.2.2.2.2.2.2.2.2.1 (d4 (d8 a))).bind fun b=>
 some (b.1,b.2.1,b.2.2.1,b.2.2.2.1,b.2.2.2.2.1,b.2.2.2.2.2.1,b.2.2.2.2.2.2.1,b.2.2.2.2.2.2.2.1,b.2.2.2.2.2.2.2.2.1,b.2.2.2.2.2.2.2.2.2.1,b.2.2.2.2.2.2.2.2.2.2,true,d,e,f,g,h,c,i,j,k,l)):=by kernel_rfl
noncomputable def F38:Fn:=⟨27,[8],[(2,[(0,.box hs7),(1,.c (.int .i64)),(2,.c (.int .i64)),(3,.c (.int .i64)),(9,.c (.int .i64))])],[0],0,[],[],Tryz.f38,[.box hs7,.c (.int .i64),.c (.int .i64),.c (.int .i64)],[.c (.bool)],[(41,F41.S)]⟩
theorem ZoG:F38.S.Ok Tryz.prog 38:=F38.ok Tryz.func38 (by kernel_rfl) ⟨ZmZ,trivial⟩
noncomputable def g38 (a:LL) (b c:Int) (d e f h j k m:LL) (n o p:Int):Option (Qt20):=F38.S.g [.l a,.i b,.i c,.l d,.l e,.l f,.l h,.l j,.l k,.l m,.i n,.i o,.i p]
noncomputable def Zj7 (k:Nat) (a:LL) (b c:Int) (d e f g h j m:LL) (n o p q:Int):Option (Qt20):=F38.lp [0] 0 r0 k [.l a,.i b,.i c,.l d,.l e,.l f,.l g,.l h,.l j,.l m,.i n,.i o,.i p,.i q]
theorem Zjl (k:Nat) (c:LL) (d e:Int) (f g h i j l m:LL) (n o p b:Int):Zj7 (k+1) c d e f g h i j l m n o p b =
 (if (cop .lss b p) then
 (g41 c d e f g h i j l m n (iop .add .i64 o b)).bind fun a=>
 if a.2.2.2.2.2.2.2.2.2.2.2.1 then
 some (true,(d4 (d8 a)).1,(d4 (d8 a)).2.1,(d2 (d4 (d8 a))).1,(d2 (d4 (d8 a))).2.1,(d16 a).1,(d16 a).2.1,(d2 (d16 a)).1,(d2 (d16 a)).2.1,(d4 (d16 a)).1,(d4 (d16 a)).2)
 else
 Zj7 k (d4 (d8 a)).1 (d4 (d8 a)).2.1 (d2 (d4 (d8 a))).1 (d2 (d4 (d8 a))).2.1 (d16 a).1 (d16 a).2.1 (d2 (d16 a)).1 (d2 (d16 a)).2.1 (d4 (d16 a)).1 (d4 (d16 a)).2 n o p (iop .add .i64 b 1)
 else
 some (false,c,d,e,f,g,h,i,j,l,m)):=by kernel_rfl
theorem Znx (a:LL) (b c:Int) (d e f g h i j:LL) (k l m:Int):g38 a b c d e f g h i j k l m =
 (Zj7 ZZ a b c d e f g h i j k l m 0):=by kernel_rfl
noncomputable def F39:Fn:=⟨64,[6],[(3,[(0,.c (.slice 13)),(2,.c (.slice 7)),(7,.c (.int .i64)),(8,.c (.int .i64))]),(6,[(0,.c (.slice 13)),(2,.c (.slice 7)),(7,.c (.int .i64)),(8,.c (.int .i64)),(9,.c (.int .i64))])],[],0,[],[],Tryz.f39,[.c (.slice 13),.agg [.int .i64,.int .i64,.int .i64],.c (.slice 7)],[.c (.bool)],[(64,F64.S),(65,F65.S),(63,F63.S),(35,F35.S)]⟩
theorem ZpJ:F39.S.Ok Tryz.prog 39:=F39.ok Tryz.func39 (by kernel_rfl) ⟨Zo2,⟨Zp2,⟨Zp3,⟨ZpR,trivial⟩⟩⟩⟩
noncomputable def g39 (a:LL) (b c d:Int) (e:LL):Option (Bool):=F39.S.g [.l a,.i b,.i c,.i d,.l e]
noncomputable def ZaY (rec0:List V→Option (Bool)) (k:Nat) (a b:LL) (c d e:Int):Option (Bool):=F39.lp [3,0] 1 (Zke r0 0 rec0) k [.l a,.l b,.i c,.i d,.i e]
theorem Zfk (rec0:List V→Option (Bool)) (k:Nat) (c d:LL) (f e h:Int):ZaY rec0 (k+1) c d f e h =
 (if (cop .lss h (List.length c:Int)) then
 Zj c h hs3 fun (a:Qt13)=>
 if (cop .geq f 0) then
 if (cop .eql a.2.2.2.2.2.2.1 1) then
 (g65 a.2.2.2.2.2.2.1 a.2.2.2.2.2.2.2.1 a.2.2.2.2.2.2.2.2.1 a.2.2.2.2.2.2.2.2.2.1 a.2.2.2.2.2.2.2.2.2.2.1 a.2.2.2.2.2.2.2.2.2.2.2.1 (d4 (d8 a))).bind fun g=>
 Zj c f hs3 fun (b:Qt13)=>
 (g65 b.2.2.2.2.2.2.1 b.2.2.2.2.2.2.2.1 b.2.2.2.2.2.2.2.2.1 b.2.2.2.2.2.2.2.2.2.1 b.2.2.2.2.2.2.2.2.2.2.1 b.2.2.2.2.2.2.2.2.2.2.2.1 (d4 (d8 b))).bind fun o=>
 (g63 g.1 g.2 o.1 o.2).bind fun r=>
 (g65 a.2.2.2.2.2.2.1 a.2.2.2.2.2.2.2.1 a.2.2.2.2.2.2.2.2.1 a.2.2.2.2.2.2.2.2.2.1 a.2.2.2.2.2.2.2.2.2.2.1 a.2.2.2.2.2.2.2.2.2.2.2.1 (d4 (d8 a))).bind fun p=>
 Zj d e hs14 fun (j:Qt24)=>
 (g65 j.1 j.2.1 j.2.2.1 j.2.2.2.1 j.2.2.2.2.1 j.2.2.2.2.2.1 j.2.2.2.2.2.2).bind fun q=>
 (g35 p.1 p.2 q.1 q.2).bind fun s=>
 if s then
 if (!r) then
 some (true)
 else
 ZaY rec0 k c d f e (iop .add .i64 h 1)
 else
 ZaY rec0 k c d f e (iop .add .i64 h 1)
 else
 (g65 a.2.2.2.2.2.2.1 a.2.2.2.2.2.2.2.1 a.2.2.2.2.2.2.2.2.1 a.2.2.2.2.2.2.2.2.2.1 a.2.2.2.2.2.2.2.2.2.2.1 a.2.2.2.2.2.2.2.2.2.2.2.1 (d4 (d8 a))).bind fun g=>
 Zj d e hs14 fun (b:Qt24)=>
 (g65 b.1 b.2.1 b.2.2.1 b.2.2.2.1 b.2.2.2.2.1 b.2.2.2.2.2.1 b.2.2.2.2.2.2).bind fun m=>
 (g35 g.1 g.2 m.1 m.2).bind fun n=>
 if n then
 some (true)
 else
 ZaY rec0 k c d f e (iop .add .i64 h 1)
 else
 (g65 a.2.2.2.2.2.2.1 a.2.2.2.2.2.2.2.1 a.2.2.2.2.2.2.2.2.1 a.2.2.2.2.2.2.2.2.2.1 a.2.2.2.2.2.2.2.2.2.2.1 a.2.2.2.2.2.2.2.2.2.2.2.1 (d4 (d8 a))).bind fun g=>
 Zj d e hs14 fun (b:Qt24)=>
 (g65 b.1 b.2.1 b.2.2.1 b.2.2.2.1 b.2.2.2.2.1 b.2.2.2.2.2.1 b.2.2.2.2.2.2).bind fun m=>
 (g35 g.1 g.2 m.1 m.2).bind fun n=>
 if n then
 some (true)
 else
 ZaY rec0 k c d f e (iop .add .i64 h 1)
 else
 rec0 [.l c,.l d,.i f,.i (iop .add .i64 e 1)]):=by kernel_rfl
noncomputable def Zil (k:Nat) (a b:LL) (c d:Int):Option (Bool):=F39.lp [2] 0 r0 k [.l a,.l b,.i c,.i d]
theorem Zfj (k:Nat) (c a:LL) (d b:Int):Zil (k+1) c a d b =
 (if (cop .lss b (List.length a:Int)) then
 ZaY (F39.lp [2] 0 r0 k) ZZ c a d b 0
 else
 some (false)):=by kernel_rfl
theorem Zm5 (a:LL) (b c d:Int) (e:LL):g39 a b c d e =
 ((g64 a b c d).bind fun f=>
 Zil ZZ a e f 0):=by kernel_rfl
noncomputable def F95:Fn:=⟨30,[4],[],[],0,[],[],Tryz.f95,[.agg [.int .i64,.int .i64,.int .i64],.agg [.int .i64,.int .i64,.int .i64]],[.c (.bool)],[]⟩
theorem Zq5:F95.S.Ok Tryz.prog 95:=F95.ok Tryz.func95 (by kernel_rfl) trivial
noncomputable def g95 (a b c d e f:Int):Option (Bool):=F95.S.g [.i a,.i b,.i c,.i d,.i e,.i f]
theorem Zmg (a b e c d f:Int):g95 a b e c d f =
 (if (cop .neq a c) then
 some ((cop .lss a c))
 else
 if (cop .neq b d) then
 some ((cop .lss b d))
 else
 some ((cop .lss e f))):=by kernel_rfl
noncomputable def F66:Fn:=⟨62,[4,5],[(4,[(0,.c (.slice 13)),(3,.box hs3),(6,.c (.int .i64))])],[],0,[],[],Tryz.f66,[.c (.slice 13),.agg hs3],[.c (.slice 13),.c (.bool)],[(64,F64.S),(67,F67.S),(95,F95.S),(22,F22.S),(51,F51.S)]⟩
theorem Zq4:F66.S.Ok Tryz.prog 66:=F66.ok Tryz.func66 (by kernel_rfl) ⟨Zo2,⟨ZpK,⟨Zq5,⟨ZoP,⟨ZoR,trivial⟩⟩⟩⟩⟩
noncomputable def g66 (a:LL) (c d e f h:Int) (j:LL) (k m n o p q:Int) (r:Bool):Option (LL×Bool):=F66.S.g [.l a,.i c,.i d,.i e,.i f,.i h,.l j,.i k,.i m,.i n,.i o,.i p,.i q,.b r]
noncomputable def Zgt (k:Nat) (a:LL) (c d e f g:Int) (h:LL) (j m n o p q:Int) (r:Bool) (s:Int):Option (LL×Bool):=F66.lp [0,1,0,1,0] 0 r0 k [.l a,.i c,.i d,.i e,.i f,.i g,.l h,.i j,.i m,.i n,.i o,.i p,.i q,.b r,.i s]
theorem ZfF (k:Nat) (d:LL) (e f h i j:Int) (l:LL) (m n o p q r:Int) (s:Bool) (c:Int):Zgt (k+1) d e f h i j l m n o p q r s c =
 (if (cop .lss c (List.length d:Int)) then
 Zj d c hs3 fun (g:Qt13)=>
 (g95 h i j g.2.2.1 g.2.2.2.1 g.2.2.2.2.1).bind fun w=>
 if (!w) then
 Zgt k d e f h i j l m n o p q r s (iop .add .i64 c 1)
 else
 Zi ((0:Int)≤c)<|
 Zi ((c:Int)≤(List.length d:Int))<|
 (g22 (List.take (Int.toNat c) d)).bind fun t=>
 (g51 h i j l m n o p q r s).bind fun a=>
 Zi (Z5 t (E0++[[AV.val (.int .i64 e),AV.val (.int .i64 f),AV.val (.int .i64 a.1),AV.val (.int .i64 a.2.1),AV.val (.int .i64 a.2.2.1),AV.slice false 3 a.2.2.2.1,AV.val (.int .i64 a.2.2.2.2.1),AV.val (.int .i64 a.2.2.2.2.2.1),AV.val (.int .i64 a.2.2.2.2.2.2.1),AV.val (.int .i64 a.2.2.2.2.2.2.2.1),AV.val (.int .i64 a.2.2.2.2.2.2.2.2.1),AV.val (.int .i64 a.2.2.2.2.2.2.2.2.2.1),AV.val (.bool a.2.2.2.2.2.2.2.2.2.2)]]) 120)<|
 Zi ((0:Int)≤c)<|
 Zi ((c:Int)≤(List.length d:Int))<|
 (g22 (List.drop (Int.toNat c) d)).bind fun u=>
 Zi (Z5 (t++(E0++[[AV.val (.int .i64 e),AV.val (.int .i64 f),AV.val (.int .i64 a.1),AV.val (.int .i64 a.2.1),AV.val (.int .i64 a.2.2.1),AV.slice false 3 a.2.2.2.1,AV.val (.int .i64 a.2.2.2.2.1),AV.val (.int .i64 a.2.2.2.2.2.1),AV.val (.int .i64 a.2.2.2.2.2.2.1),AV.val (.int .i64 a.2.2.2.2.2.2.2.1),AV.val (.int .i64 a.2.2.2.2.2.2.2.2.1),AV.val (.int .i64 a.2.2.2.2.2.2.2.2.2.1),AV.val (.bool a.2.2.2.2.2.2.2.2.2.2)]])) u 120)<|
 some (((t++(E0++[[AV.val (.int .i64 e),AV.val (.int .i64 f),AV.val (.int .i64 a.1),AV.val (.int .i64 a.2.1),AV.val (.int .i64 a.2.2.1),AV.slice false 3 a.2.2.2.1,AV.val (.int .i64 a.2.2.2.2.1),AV.val (.int .i64 a.2.2.2.2.2.1),AV.val (.int .i64 a.2.2.2.2.2.2.1),AV.val (.int .i64 a.2.2.2.2.2.2.2.1),AV.val (.int .i64 a.2.2.2.2.2.2.2.2.1),AV.val (.int .i64 a.2.2.2.2.2.2.2.2.2.1),AV.val (.bool a.2.2.2.2.2.2.2.2.2.2)]]))++u),true)
 else
 Zi ((0:Int)≤c)<|
 Zi ((c:Int)≤(List.length d:Int))<|
 (g22 (List.take (Int.toNat c) d)).bind fun g=>
 (g51 h i j l m n o p q r s).bind fun b=>
 Zi (Z5 g (E0++[[AV.val (.int .i64 e),AV.val (.int .i64 f),AV.val (.int .i64 b.1),AV.val (.int .i64 b.2.1),AV.val (.int .i64 b.2.2.1),AV.slice false 3 b.2.2.2.1,AV.val (.int .i64 b.2.2.2.2.1),AV.val (.int .i64 b.2.2.2.2.2.1),AV.val (.int .i64 b.2.2.2.2.2.2.1),AV.val (.int .i64 b.2.2.2.2.2.2.2.1),AV.val (.int .i64 b.2.2.2.2.2.2.2.2.1),AV.val (.int .i64 b.2.2.2.2.2.2.2.2.2.1),AV.val (.bool b.2.2.2.2.2.2.2.2.2.2)]]) 120)<|
 Zi ((0:Int)≤c)<|
 Zi ((c:Int)≤(List.length d:Int))<|
 (g22 (List.drop (Int.toNat c) d)).bind fun v=>
 Zi (Z5 (g++(E0++[[AV.val (.int .i64 e),AV.val (.int .i64 f),AV.val (.int .i64 b.1),AV.val (.int .i64 b.2.1),AV.val (.int .i64 b.2.2.1),AV.slice false 3 b.2.2.2.1,AV.val (.int .i64 b.2.2.2.2.1),AV.val (.int .i64 b.2.2.2.2.2.1),AV.val (.int .i64 b.2.2.2.2.2.2.1),AV.val (.int .i64 b.2.2.2.2.2.2.2.1),AV.val (.int .i64 b.2.2.2.2.2.2.2.2.1),AV.val (.int .i64 b.2.2.2.2.2.2.2.2.2.1),AV.val (.bool b.2.2.2.2.2.2.2.2.2.2)]])) v 120)<|
 some (((g++(E0++[[AV.val (.int .i64 e),AV.val (.int .i64 f),AV.val (.int .i64 b.1),AV.val (.int .i64 b.2.1),AV.val (.int .i64 b.2.2.1),AV.slice false 3 b.2.2.2.1,AV.val (.int .i64 b.2.2.2.2.1),AV.val (.int .i64 b.2.2.2.2.2.1),AV.val (.int .i64 b.2.2.2.2.2.2.1),AV.val (.int .i64 b.2.2.2.2.2.2.2.1),AV.val (.int .i64 b.2.2.2.2.2.2.2.2.1),AV.val (.int .i64 b.2.2.2.2.2.2.2.2.2.1),AV.val (.bool b.2.2.2.2.2.2.2.2.2.2)]]))++v),true)):=by kernel_rfl
theorem Zm8 (a:LL) (b c d e f:Int) (g:LL) (h i j k l m:Int) (n:Bool):g66 a b c d e f g h i j k l m n =
 ((g64 a d e f).bind fun o=>
 if (cop .geq o 0) then
 some (E0,false)
 else
 (g67 a b c).bind fun p=>
 if (cop .geq p 0) then
 some (E0,false)
 else
 Zgt ZZ a b c d e f g h i j k l m n 0):=by kernel_rfl
noncomputable def F40:Fn:=⟨64,[],[(1,[(0,.box hs7),(1,.c (.int .i64)),(2,.c (.int .i64)),(3,.c (.slice 11)),(8,.c (.int .i64))])],[0],0,[],[],Tryz.f40,[.box hs7,.c (.int .i64),.c (.int .i64),.c (.slice 11)],[],[(66,F66.S)]⟩
theorem Zou:F40.S.Ok Tryz.prog 40:=F40.ok Tryz.func40 (by kernel_rfl) ⟨Zq4,trivial⟩
noncomputable def g40 (a:LL) (b c:Int) (d e f h j k m:LL) (n o:Int) (p:LL):Option (Qt23):=F40.S.g [.l a,.i b,.i c,.l d,.l e,.l f,.l h,.l j,.l k,.l m,.i n,.i o,.l p]
noncomputable def Zi6 (k:Nat) (a:LL) (b c:Int) (d e f g h j m:LL) (n o:Int) (p:LL) (q:Int):Option (Qt23):=F40.lp [0] 0 r0 k [.l a,.i b,.i c,.l d,.l e,.l f,.l g,.l h,.l j,.l m,.i n,.i o,.l p,.i q]
theorem ZjB (k:Nat) (e:LL) (f g:Int) (h i j l m n c:LL) (p q:Int) (b:LL) (d:Int):Zi6 (k+1) e f g h i j l m n c p q b d =
 (if (cop .lss d (List.length b:Int)) then
 Zj b d hs6 fun (a:Qt19)=>
 (g66 j p (iop .add .i64 q d) a.1 a.2.1 a.2.2.1 a.2.2.2.1 a.2.2.2.2.1 a.2.2.2.2.2.1 a.2.2.2.2.2.2.1 a.2.2.2.2.2.2.2.1 a.2.2.2.2.2.2.2.2.1 a.2.2.2.2.2.2.2.2.2.1 a.2.2.2.2.2.2.2.2.2.2).bind fun o=>
 Zi6 k e f g h i o.1 l m n c p q b (iop .add .i64 d 1)
 else
 if (cop .gtr (List.length b:Int) 0) then
 Zi (Z5 E0 c 16)<|
 Zj b 0 hs6 fun (a:Qt19)=>
 Zj b 0 hs6 fun (o:Qt19)=>
 Zi (Z5 c (E0++[[AV.val (.int .i64 a.1),AV.val (.int .i64 o.2.1)]]) 16)<|
 some (e,f,g,h,i,j,l,m,n,(c++(E0++[[AV.val (.int .i64 a.1),AV.val (.int .i64 o.2.1)]])))
 else
 some (e,f,g,h,i,j,l,m,n,c)):=by kernel_rfl
theorem Zmc (a:LL) (b c:Int) (d e f g h i j:LL) (k l:Int) (m:LL):g40 a b c d e f g h i j k l m =
 (Zi6 ZZ a b c d e f g h i j k l m 0):=by kernel_rfl
noncomputable def F16:Fn:=⟨82,[8],[],[0],0,[],[],Tryz.f16,[.box hs7,.c (.int .i64),.c (.int .i64),.agg hs4],[.c (.int .i64)],[(36,F36.S),(33,F33.S),(37,F37.S),(38,F38.S),(39,F39.S),(40,F40.S)]⟩
theorem Zqi:F16.S.Ok Tryz.prog 16:=F16.ok Tryz.func16 (by kernel_rfl) ⟨Zm3,⟨Zl9,⟨ZqS,⟨ZoG,⟨ZpJ,⟨Zou,trivial⟩⟩⟩⟩⟩⟩
noncomputable def g16 (a:LL) (b c:Int) (d e f h j k m:LL) (n o p q r s t u v w x y z A:Int):Option (Qt21):=F16.S.g [.l a,.i b,.i c,.l d,.l e,.l f,.l h,.l j,.l k,.l m,.i n,.i o,.i p,.i q,.i r,.i s,.i t,.i u,.i v,.i w,.i x,.i y,.i z,.i A]
theorem Znn (h:LL) (i j:Int) (k l m n o p q:LL) (f r u v g w x y d z e A C D:Int):g16 h i j k l m n o p q f r u v g w x y d z e A C D =
 ((g36 h i j k l m n o p q g).bind fun a=>
 if (!a.1) then
 some (1,a.2.1,a.2.2.1,a.2.2.2.1,a.2.2.2.2.1,a.2.2.2.2.2.1,a.2.2.2.2.2.2.1,a.2.2.2.2.2.2.2.1,a.2.2.2.2.2.2.2.2.1,a.2.2.2.2.2.2.2.2.2.1,a.2.2.2.2.2.2.2.2.2.2)
 else
 if (cop .lss d 6) then
 some (1,a.2.1,a.2.2.1,a.2.2.2.1,a.2.2.2.2.1,a.2.2.2.2.2.1,a.2.2.2.2.2.2.1,a.2.2.2.2.2.2.2.1,a.2.2.2.2.2.2.2.2.1,a.2.2.2.2.2.2.2.2.2.1,a.2.2.2.2.2.2.2.2.2.2)
 else
 if (cop .gtr d 40) then
 some (1,a.2.1,a.2.2.1,a.2.2.2.1,a.2.2.2.2.1,a.2.2.2.2.2.1,a.2.2.2.2.2.2.1,a.2.2.2.2.2.2.2.1,a.2.2.2.2.2.2.2.2.1,a.2.2.2.2.2.2.2.2.2.1,a.2.2.2.2.2.2.2.2.2.2)
 else
 (g33 e d).bind fun E=>
 if (!E) then
 some (6,a.2.1,a.2.2.1,a.2.2.2.1,a.2.2.2.2.1,a.2.2.2.2.2.1,a.2.2.2.2.2.2.1,a.2.2.2.2.2.2.2.1,a.2.2.2.2.2.2.2.2.1,a.2.2.2.2.2.2.2.2.2.1,a.2.2.2.2.2.2.2.2.2.2)
 else
 (g37 a.2.2.2.2.1 e d).bind fun s=>
 if (cop .lss s 0) then
 some (11,a.2.1,a.2.2.1,a.2.2.2.1,a.2.2.2.2.1,a.2.2.2.2.2.1,a.2.2.2.2.2.2.1,a.2.2.2.2.2.2.2.1,a.2.2.2.2.2.2.2.2.1,a.2.2.2.2.2.2.2.2.2.1,a.2.2.2.2.2.2.2.2.2.2)
 else
 (g38 a.2.1 a.2.2.1 a.2.2.2.1 a.2.2.2.2.1 a.2.2.2.2.2.1 a.2.2.2.2.2.2.1 a.2.2.2.2.2.2.2.1 a.2.2.2.2.2.2.2.2.1 a.2.2.2.2.2.2.2.2.2.1 a.2.2.2.2.2.2.2.2.2.2 f g 1).bind fun b=>
 if b.1 then
 some (3,b.2.1,b.2.2.1,b.2.2.2.1,b.2.2.2.2.1,b.2.2.2.2.2.1,b.2.2.2.2.2.2.1,b.2.2.2.2.2.2.2.1,b.2.2.2.2.2.2.2.2.1,b.2.2.2.2.2.2.2.2.2.1,b.2.2.2.2.2.2.2.2.2.2)
 else
 Zj b.2.2.2.2.1 s [.int .i64,.int .i64,.bool] fun (t:Int×Int×Bool)=>
 (g39 b.2.2.2.2.2.2.1 0 0 0 (E0++[[AV.val (.int .i64 1),AV.val (.int .i64 e),AV.val (.int .i64 d),AV.val (.int .i64 7),AV.val (.int .i64 0),AV.val (.int .i64 0),AV.val (.bool t.2.2)]])).bind fun G=>
 if G then
 some (7,b.2.1,b.2.2.1,b.2.2.2.1,b.2.2.2.2.1,b.2.2.2.2.2.1,b.2.2.2.2.2.2.1,b.2.2.2.2.2.2.2.1,b.2.2.2.2.2.2.2.2.1,b.2.2.2.2.2.2.2.2.2.1,b.2.2.2.2.2.2.2.2.2.2)
 else
 (g40 b.2.1 b.2.2.1 b.2.2.2.1 b.2.2.2.2.1 b.2.2.2.2.2.1 b.2.2.2.2.2.2.1 b.2.2.2.2.2.2.2.1 b.2.2.2.2.2.2.2.2.1 b.2.2.2.2.2.2.2.2.2.1 b.2.2.2.2.2.2.2.2.2.2 f g (E0++[[AV.val (.int .i64 f),AV.val (.int .i64 r),AV.val (.int .i64 0),AV.slice false 3 E0,AV.val (.int .i64 1),AV.val (.int .i64 e),AV.val (.int .i64 d),AV.val (.int .i64 7),AV.val (.int .i64 0),AV.val (.int .i64 0),AV.val (.bool t.2.2)]])).bind fun c=>
 some (0,c.1,c.2.1,c.2.2.1,c.2.2.2.1,c.2.2.2.2.1,c.2.2.2.2.2.1,c.2.2.2.2.2.2.1,c.2.2.2.2.2.2.2.1,c.2.2.2.2.2.2.2.2.1,c.2.2.2.2.2.2.2.2.2)):=by kernel_rfl
noncomputable def F17:Fn:=⟨29,[6],[],[0],0,[],[],Tryz.f17,[.box hs7,.c (.int .i64),.agg hs4],[.agg hs11],[(36,F36.S),(41,F41.S)]⟩
theorem Zqn:F17.S.Ok Tryz.prog 17:=F17.ok Tryz.func17 (by kernel_rfl) ⟨Zm3,⟨ZmZ,trivial⟩⟩
noncomputable def g17 (a:LL) (b c:Int) (d e f h j k m:LL) (n o p q r s t u v w x y z:Int):Option (Qt9):=F17.S.g [.l a,.i b,.i c,.l d,.l e,.l f,.l h,.l j,.l k,.l m,.i n,.i o,.i p,.i q,.i r,.i s,.i t,.i u,.i v,.i w,.i x,.i y,.i z]
theorem Znz (d:LL) (e f:Int) (g h i j k l m:LL) (n o c p q r s t u v w x y:Int):g17 d e f g h i j k l m n o c p q r s t u v w x y =
 ((g36 d e f g h i j k l m c).bind fun b=>
 if (!b.1) then
 some (1,0,0,0,0,0,0,false,0,b.2.1,b.2.2.1,b.2.2.2.1,b.2.2.2.2.1,b.2.2.2.2.2.1,b.2.2.2.2.2.2.1,b.2.2.2.2.2.2.2.1,b.2.2.2.2.2.2.2.2.1,b.2.2.2.2.2.2.2.2.2.1,b.2.2.2.2.2.2.2.2.2.2)
 else
 (g41 b.2.1 b.2.2.1 b.2.2.2.1 b.2.2.2.2.1 b.2.2.2.2.2.1 b.2.2.2.2.2.2.1 b.2.2.2.2.2.2.2.1 b.2.2.2.2.2.2.2.2.1 b.2.2.2.2.2.2.2.2.2.1 b.2.2.2.2.2.2.2.2.2.2 n c).bind fun a=>
 if (!a.2.2.2.2.2.2.2.2.2.2.2.1) then
 some (2,0,0,0,0,0,0,false,0,(d4 (d8 a)).1,(d4 (d8 a)).2.1,(d2 (d4 (d8 a))).1,(d2 (d4 (d8 a))).2.1,(d16 a).1,(d16 a).2.1,(d2 (d16 a)).1,(d2 (d16 a)).2.1,(d4 (d16 a)).1,(d4 (d16 a)).2)
 else
 some (0,a.2.2.2.2.1,a.2.2.2.2.2.1,a.2.2.2.2.2.2.1,a.2.2.2.2.2.2.2.1,a.2.2.2.2.2.2.2.2.1,a.2.2.2.2.2.2.2.2.2.1,a.2.2.2.2.2.2.2.2.2.2.1,0,(d4 (d8 a)).1,(d4 (d8 a)).2.1,(d2 (d4 (d8 a))).1,(d2 (d4 (d8 a))).2.1,(d16 a).1,(d16 a).2.1,(d2 (d16 a)).1,(d2 (d16 a)).2.1,(d4 (d16 a)).1,(d4 (d16 a)).2)):=by kernel_rfl
noncomputable def F18:Fn:=⟨121,[6],[],[0],0,[],[],Tryz.f18,[.box hs7,.c (.int .i64),.agg hs4],[.c (.int .i64)],[(36,F36.S),(41,F41.S),(42,F42.S),(43,F43.S)]⟩
theorem Zqd:F18.S.Ok Tryz.prog 18:=F18.ok Tryz.func18 (by kernel_rfl) ⟨Zm3,⟨ZmZ,⟨ZqF,⟨ZqM,trivial⟩⟩⟩⟩
noncomputable def g18 (a:LL) (b c:Int) (d e f h j k m:LL) (n o p q r s t u v w x y z:Int):Option (Qt21):=F18.S.g [.l a,.i b,.i c,.l d,.l e,.l f,.l h,.l j,.l k,.l m,.i n,.i o,.i p,.i q,.i r,.i s,.i t,.i u,.i v,.i w,.i x,.i y,.i z]
theorem Znl (p:LL) (q r:Int) (s t u v w x y:LL) (e i j k z g A C D E G h H:Int):g18 p q r s t u v w x y e i j k z g A C D E G h H =
 ((g36 p q r s t u v w x y j).bind fun f=>
 if (!f.1) then
 some (1,f.2.1,f.2.2.1,f.2.2.2.1,f.2.2.2.2.1,f.2.2.2.2.2.1,f.2.2.2.2.2.2.1,f.2.2.2.2.2.2.2.1,f.2.2.2.2.2.2.2.2.1,f.2.2.2.2.2.2.2.2.2.1,f.2.2.2.2.2.2.2.2.2.2)
 else
 if (cop .eql i 8) then
 (g36 f.2.1 f.2.2.1 f.2.2.2.1 f.2.2.2.2.1 f.2.2.2.2.2.1 f.2.2.2.2.2.2.1 f.2.2.2.2.2.2.2.1 f.2.2.2.2.2.2.2.2.1 f.2.2.2.2.2.2.2.2.2.1 f.2.2.2.2.2.2.2.2.2.2 k).bind fun a=>
 if (!a.1) then
 some (1,a.2.1,a.2.2.1,a.2.2.2.1,a.2.2.2.2.1,a.2.2.2.2.2.1,a.2.2.2.2.2.2.1,a.2.2.2.2.2.2.2.1,a.2.2.2.2.2.2.2.2.1,a.2.2.2.2.2.2.2.2.2.1,a.2.2.2.2.2.2.2.2.2.2)
 else
 if (cop .lss g 0) then
 some (1,a.2.1,a.2.2.1,a.2.2.2.1,a.2.2.2.2.1,a.2.2.2.2.2.1,a.2.2.2.2.2.2.1,a.2.2.2.2.2.2.2.1,a.2.2.2.2.2.2.2.2.1,a.2.2.2.2.2.2.2.2.2.1,a.2.2.2.2.2.2.2.2.2.2)
 else
 if (cop .gtr g 7) then
 some (1,a.2.1,a.2.2.1,a.2.2.2.1,a.2.2.2.2.1,a.2.2.2.2.2.1,a.2.2.2.2.2.2.1,a.2.2.2.2.2.2.2.1,a.2.2.2.2.2.2.2.2.1,a.2.2.2.2.2.2.2.2.2.1,a.2.2.2.2.2.2.2.2.2.2)
 else
 (g41 a.2.1 a.2.2.1 a.2.2.2.1 a.2.2.2.2.1 a.2.2.2.2.2.1 a.2.2.2.2.2.2.1 a.2.2.2.2.2.2.2.1 a.2.2.2.2.2.2.2.2.1 a.2.2.2.2.2.2.2.2.2.1 a.2.2.2.2.2.2.2.2.2.2 e j).bind fun b=>
 if (!b.2.2.2.2.2.2.2.2.2.2.2.1) then
 some (2,(d4 (d8 b)).1,(d4 (d8 b)).2.1,(d2 (d4 (d8 b))).1,(d2 (d4 (d8 b))).2.1,(d16 b).1,(d16 b).2.1,(d2 (d16 b)).1,(d2 (d16 b)).2.1,(d4 (d16 b)).1,(d4 (d16 b)).2)
 else
 if (!(cop .eql i 8)) then
 Zi ((0:Int)≤e)<|
 Zi ((e:Int) < (List.length (d2 (d16 b)).1:Int))<|
 Zj (d2 (d16 b)).1 e [.slice 4] fun (c:LL)=>
 (g42 c b.2.2.2.2.1 b.2.2.2.2.2.1 b.2.2.2.2.2.2.1 b.2.2.2.2.2.2.2.1 b.2.2.2.2.2.2.2.2.1 b.2.2.2.2.2.2.2.2.2.1 b.2.2.2.2.2.2.2.2.2.2.1 h).bind fun l=>
 if (cop .eql l.2.2.2.2 0) then
 Zi ((0:Int)≤e)<|
 Zi ((e:Int) < (List.length (d2 (d16 b)).1:Int))<|
 Zi ((0:Int)≤e)<|
 Zi ((e:Int) < (List.length (d2 (d16 b)).1:Int))<|
 some (l.2.2.2.2,(d4 (d8 b)).1,(d4 (d8 b)).2.1,(d2 (d4 (d8 b))).1,(d2 (d4 (d8 b))).2.1,(d16 b).1,(d16 b).2.1,(Zp (d2 (d16 b)).1 (Int.toNat e) 0 [AV.slice false 4 l.1]),(d2 (d16 b)).2.1,(d4 (d16 b)).1,(d4 (d16 b)).2)
 else
 some (l.2.2.2.2,(d4 (d8 b)).1,(d4 (d8 b)).2.1,(d2 (d4 (d8 b))).1,(d2 (d4 (d8 b))).2.1,(d16 b).1,(d16 b).2.1,(d2 (d16 b)).1,(d2 (d16 b)).2.1,(d4 (d16 b)).1,(d4 (d16 b)).2)
 else
 (g41 (d4 (d8 b)).1 (d4 (d8 b)).2.1 (d2 (d4 (d8 b))).1 (d2 (d4 (d8 b))).2.1 (d16 b).1 (d16 b).2.1 (d2 (d16 b)).1 (d2 (d16 b)).2.1 (d4 (d16 b)).1 (d4 (d16 b)).2 e k).bind fun c=>
 if (!c.2.2.2.2.2.2.2.2.2.2.2.1) then
 some (2,(d4 (d8 c)).1,(d4 (d8 c)).2.1,(d2 (d4 (d8 c))).1,(d2 (d4 (d8 c))).2.1,(d16 c).1,(d16 c).2.1,(d2 (d16 c)).1,(d2 (d16 c)).2.1,(d4 (d16 c)).1,(d4 (d16 c)).2)
 else
 Zi ((0:Int)≤e)<|
 Zi ((e:Int) < (List.length (d2 (d16 c)).1:Int))<|
 Zj (d2 (d16 c)).1 e [.slice 4] fun (J:LL)=>
 (g43 J b.2.2.2.2.1 b.2.2.2.2.2.1 b.2.2.2.2.2.2.1 b.2.2.2.2.2.2.2.1 b.2.2.2.2.2.2.2.2.1 b.2.2.2.2.2.2.2.2.2.1 b.2.2.2.2.2.2.2.2.2.2.1 h c.1 c.2.1 c.2.2.1 c.2.2.2.1 c.2.2.2.2.1 c.2.2.2.2.2.1 c.2.2.2.2.2.2.1 c.2.2.2.2.2.2.2.1 c.2.2.2.2.2.2.2.2.1 c.2.2.2.2.2.2.2.2.2.1 c.2.2.2.2.2.2.2.2.2.2.1 g).bind fun m=>
 if (cop .eql m.2 0) then
 Zi ((0:Int)≤e)<|
 Zi ((e:Int) < (List.length (d2 (d16 c)).1:Int))<|
 Zi ((0:Int)≤e)<|
 Zi ((e:Int) < (List.length (d2 (d16 c)).1:Int))<|
 some (m.2,(d4 (d8 c)).1,(d4 (d8 c)).2.1,(d2 (d4 (d8 c))).1,(d2 (d4 (d8 c))).2.1,(d16 c).1,(d16 c).2.1,(Zp (d2 (d16 c)).1 (Int.toNat e) 0 [AV.slice false 4 m.1]),(d2 (d16 c)).2.1,(d4 (d16 c)).1,(d4 (d16 c)).2)
 else
 some (m.2,(d4 (d8 c)).1,(d4 (d8 c)).2.1,(d2 (d4 (d8 c))).1,(d2 (d4 (d8 c))).2.1,(d16 c).1,(d16 c).2.1,(d2 (d16 c)).1,(d2 (d16 c)).2.1,(d4 (d16 c)).1,(d4 (d16 c)).2)
 else
 (g41 f.2.1 f.2.2.1 f.2.2.2.1 f.2.2.2.2.1 f.2.2.2.2.2.1 f.2.2.2.2.2.2.1 f.2.2.2.2.2.2.2.1 f.2.2.2.2.2.2.2.2.1 f.2.2.2.2.2.2.2.2.2.1 f.2.2.2.2.2.2.2.2.2.2 e j).bind fun a=>
 if (!a.2.2.2.2.2.2.2.2.2.2.2.1) then
 some (2,(d4 (d8 a)).1,(d4 (d8 a)).2.1,(d2 (d4 (d8 a))).1,(d2 (d4 (d8 a))).2.1,(d16 a).1,(d16 a).2.1,(d2 (d16 a)).1,(d2 (d16 a)).2.1,(d4 (d16 a)).1,(d4 (d16 a)).2)
 else
 if (!(cop .eql i 8)) then
 Zi ((0:Int)≤e)<|
 Zi ((e:Int) < (List.length (d2 (d16 a)).1:Int))<|
 Zj (d2 (d16 a)).1 e [.slice 4] fun (d:LL)=>
 (g42 d a.2.2.2.2.1 a.2.2.2.2.2.1 a.2.2.2.2.2.2.1 a.2.2.2.2.2.2.2.1 a.2.2.2.2.2.2.2.2.1 a.2.2.2.2.2.2.2.2.2.1 a.2.2.2.2.2.2.2.2.2.2.1 h).bind fun n=>
 if (cop .eql n.2.2.2.2 0) then
 Zi ((0:Int)≤e)<|
 Zi ((e:Int) < (List.length (d2 (d16 a)).1:Int))<|
 Zi ((0:Int)≤e)<|
 Zi ((e:Int) < (List.length (d2 (d16 a)).1:Int))<|
 some (n.2.2.2.2,(d4 (d8 a)).1,(d4 (d8 a)).2.1,(d2 (d4 (d8 a))).1,(d2 (d4 (d8 a))).2.1,(d16 a).1,(d16 a).2.1,(Zp (d2 (d16 a)).1 (Int.toNat e) 0 [AV.slice false 4 n.1]),(d2 (d16 a)).2.1,(d4 (d16 a)).1,(d4 (d16 a)).2)
 else
 some (n.2.2.2.2,(d4 (d8 a)).1,(d4 (d8 a)).2.1,(d2 (d4 (d8 a))).1,(d2 (d4 (d8 a))).2.1,(d16 a).1,(d16 a).2.1,(d2 (d16 a)).1,(d2 (d16 a)).2.1,(d4 (d16 a)).1,(d4 (d16 a)).2)
 else
 (g41 (d4 (d8 a)).1 (d4 (d8 a)).2.1 (d2 (d4 (d8 a))).1 (d2 (d4 (d8 a))).2.1 (d16 a).1 (d16 a).2.1 (d2 (d16 a)).1 (d2 (d16 a)).2.1 (d4 (d16 a)).1 (d4 (d16 a)).2 e k).bind fun d=>
 if (!d.2.2.2.2.2.2.2.2.2.2.2.1) then
 some (2,(d4 (d8 d)).1,(d4 (d8 d)).2.1,(d2 (d4 (d8 d))).1,(d2 (d4 (d8 d))).2.1,(d16 d).1,(d16 d).2.1,(d2 (d16 d)).1,(d2 (d16 d)).2.1,(d4 (d16 d)).1,(d4 (d16 d)).2)
 else
 Zi ((0:Int)≤e)<|
 Zi ((e:Int) < (List.length (d2 (d16 d)).1:Int))<|
 Zj (d2 (d16 d)).1 e [.slice 4] fun (K:LL)=>
 (g43 K a.2.2.2.2.1 a.2.2.2.2.2.1 a.2.2.2.2.2.2.1 a.2.2.2.2.2.2.2.1 a.2.2.2.2.2.2.2.2.1 a.2.2.2.2.2.2.2.2.2.1 a.2.2.2.2.2.2.2.2.2.2.1 h d.1 d.2.1 d.2.2.1 d.2.2.2.1 d.2.2.2.2.1 d.2.2.2.2.2.1 d.2.2.2.2.2.2.1 d.2.2.2.2.2.2.2.1 d.2.2.2.2.2.2.2.2.1 d.2.2.2.2.2.2.2.2.2.1 d.2.2.2.2.2.2.2.2.2.2.1 g).bind fun o=>
 if (cop .eql o.2 0) then
 Zi ((0:Int)≤e)<|
 Zi ((e:Int) < (List.length (d2 (d16 d)).1:Int))<|
 Zi ((0:Int)≤e)<|
 Zi ((e:Int) < (List.length (d2 (d16 d)).1:Int))<|
 some (o.2,(d4 (d8 d)).1,(d4 (d8 d)).2.1,(d2 (d4 (d8 d))).1,(d2 (d4 (d8 d))).2.1,(d16 d).1,(d16 d).2.1,(Zp (d2 (d16 d)).1 (Int.toNat e) 0 [AV.slice false 4 o.1]),(d2 (d16 d)).2.1,(d4 (d16 d)).1,(d4 (d16 d)).2)
 else
 some (o.2,(d4 (d8 d)).1,(d4 (d8 d)).2.1,(d2 (d4 (d8 d))).1,(d2 (d4 (d8 d))).2.1,(d16 d).1,(d16 d).2.1,(d2 (d16 d)).1,(d2 (d16 d)).2.1,(d4 (d16 d)).1,(d4 (d16 d)).2)):=by kernel_rfl
noncomputable def F19:Fn:=⟨73,[6],[],[0],0,[],[],Tryz.f19,[.box hs7,.c (.int .i64),.agg hs4],[.agg hs11],[(36,F36.S),(41,F41.S),(44,F44.S)]⟩
theorem Zqx:F19.S.Ok Tryz.prog 19:=F19.ok Tryz.func19 (by kernel_rfl) ⟨Zm3,⟨ZmZ,⟨Zqo,trivial⟩⟩⟩
noncomputable def g19 (a:LL) (b c:Int) (d e f h j k m:LL) (n o p q r s t u v w x y z:Int):Option (Qt9):=F19.S.g [.l a,.i b,.i c,.l d,.l e,.l f,.l h,.l j,.l k,.l m,.i n,.i o,.i p,.i q,.i r,.i s,.i t,.i u,.i v,.i w,.i x,.i y,.i z]
theorem ZnA (h:LL) (i j:Int) (k l m n o p q:LL) (c r f s t d u v w x y z g:Int):g19 h i j k l m n o p q c r f s t d u v w x y z g =
 ((g36 h i j k l m n o p q f).bind fun b=>
 if (!b.1) then
 some (1,0,0,0,0,0,0,false,0,b.2.1,b.2.2.1,b.2.2.2.1,b.2.2.2.2.1,b.2.2.2.2.2.1,b.2.2.2.2.2.2.1,b.2.2.2.2.2.2.2.1,b.2.2.2.2.2.2.2.2.1,b.2.2.2.2.2.2.2.2.2.1,b.2.2.2.2.2.2.2.2.2.2)
 else
 if (cop .lss d 0) then
 some (1,0,0,0,0,0,0,false,0,b.2.1,b.2.2.1,b.2.2.2.1,b.2.2.2.2.1,b.2.2.2.2.2.1,b.2.2.2.2.2.2.1,b.2.2.2.2.2.2.2.1,b.2.2.2.2.2.2.2.2.1,b.2.2.2.2.2.2.2.2.2.1,b.2.2.2.2.2.2.2.2.2.2)
 else
 if (cop .gtr d 3) then
 some (1,0,0,0,0,0,0,false,0,b.2.1,b.2.2.1,b.2.2.2.1,b.2.2.2.2.1,b.2.2.2.2.2.1,b.2.2.2.2.2.2.1,b.2.2.2.2.2.2.2.1,b.2.2.2.2.2.2.2.2.1,b.2.2.2.2.2.2.2.2.2.1,b.2.2.2.2.2.2.2.2.2.2)
 else
 (g41 b.2.1 b.2.2.1 b.2.2.2.1 b.2.2.2.2.1 b.2.2.2.2.2.1 b.2.2.2.2.2.2.1 b.2.2.2.2.2.2.2.1 b.2.2.2.2.2.2.2.2.1 b.2.2.2.2.2.2.2.2.2.1 b.2.2.2.2.2.2.2.2.2.2 c f).bind fun a=>
 if (!a.2.2.2.2.2.2.2.2.2.2.2.1) then
 some (2,0,0,0,0,0,0,false,0,(d4 (d8 a)).1,(d4 (d8 a)).2.1,(d2 (d4 (d8 a))).1,(d2 (d4 (d8 a))).2.1,(d16 a).1,(d16 a).2.1,(d2 (d16 a)).1,(d2 (d16 a)).2.1,(d4 (d16 a)).1,(d4 (d16 a)).2)
 else
 Zi ((0:Int)≤c)<|
 Zi ((c:Int) < (List.length (d2 (d16 a)).1:Int))<|
 Zj (d2 (d16 a)).1 c [.slice 4] fun (A:LL)=>
 (g44 A a.2.2.2.2.1 a.2.2.2.2.2.1 a.2.2.2.2.2.2.1 a.2.2.2.2.2.2.2.1 a.2.2.2.2.2.2.2.2.1 a.2.2.2.2.2.2.2.2.2.1 a.2.2.2.2.2.2.2.2.2.2.1 g).bind fun e=>
 if (cop .neq e.2.2.2.2.2.2 0) then
 some (e.2.2.2.2.2.2,0,0,0,0,0,0,false,0,(d4 (d8 a)).1,(d4 (d8 a)).2.1,(d2 (d4 (d8 a))).1,(d2 (d4 (d8 a))).2.1,(d16 a).1,(d16 a).2.1,(d2 (d16 a)).1,(d2 (d16 a)).2.1,(d4 (d16 a)).1,(d4 (d16 a)).2)
 else
 if (cop .neq (iop .and .i64 e.2.2.2.1 d) d) then
 some (8,0,0,0,0,0,0,false,0,(d4 (d8 a)).1,(d4 (d8 a)).2.1,(d2 (d4 (d8 a))).1,(d2 (d4 (d8 a))).2.1,(d16 a).1,(d16 a).2.1,(d2 (d16 a)).1,(d2 (d16 a)).2.1,(d4 (d16 a)).1,(d4 (d16 a)).2)
 else
 Zi ((4096:Int)≠0)<|
 some (0,0,0,0,0,0,0,false,(iop .add .i64 e.2.2.1 (iop .rem .i64 g 4096)),(d4 (d8 a)).1,(d4 (d8 a)).2.1,(d2 (d4 (d8 a))).1,(d2 (d4 (d8 a))).2.1,(d16 a).1,(d16 a).2.1,(d2 (d16 a)).1,(d2 (d16 a)).2.1,(d4 (d16 a)).1,(d4 (d16 a)).2)):=by kernel_rfl
noncomputable def F81:Fn:=⟨136,[14,15],[(16,[(1,.c (.int .i64)),(2,.c (.int .i64)),(3,.c (.int .i64)),(4,.c (.int .i64)),(5,.c (.int .i64)),(6,.c (.int .i64)),(7,.box hs14),(16,.c (.bool)),(17,.c (.int .i64)),(19,.c (.own false 37)),(20,.c (.int .i64))])],[],0,[],[],Tryz.f81,[.agg hs14,.c (.int .i64),.c (.int .i64),.c (.int .i64),.c (.int .i64),.c (.int .i64),.c (.int .i64)],[.c (.slice 7),.c (.int .i64)],[(76,F76.S),(98,F98.S),(99,F99.S)]⟩
theorem Zp9:F81.S.Ok Tryz.prog 81:=F81.ok Tryz.func81 (by kernel_rfl) ⟨Zn0,⟨ZpP,⟨ZpT,trivial⟩⟩⟩
noncomputable def g81 (a c d e f h:Int) (j:Bool) (k l m n o p:Int):Option (LL×Int):=F81.S.g [.i a,.i c,.i d,.i e,.i f,.i h,.b j,.i k,.i l,.i m,.i n,.i o,.i p]
noncomputable def Ks (k:Nat) (a c d e f g h j m n o p:Int) (q r:Bool) (s:Int) (t:LL) (u:Int):Option (LL×Int):=F81.lp [0,1,1,1,0,1,0,0,1,1,1,1,0,0,1,3,1,1,1,0,1,0] 0 r0 k [.i a,.i c,.i d,.i e,.i f,.i g,.i h,.i j,.i m,.i n,.i o,.i p,.b q,.b r,.i s,.l t,.i u]
theorem ZfA (k:Nat) (b c j l d m o e p f q r:Int) (g n:Bool) (h:Int) (i:LL) (a:Int):Ks (k+1) b c j l d m o e p f q r g n h i a =
 (if (cop .lss a m) then
 if n then
 Zi (Z5 i (E0++[[AV.val (.int .i64 b),AV.val (.int .i64 (iop .add .i64 (iop .add .i64 e d) (iop .mul .i64 a h))),AV.val (.int .i64 c),AV.val (.int .i64 f),AV.val (.int .i64 l),AV.val (.int .i64 j),AV.val (.bool g)]]) 56)<|
 Ks k b c j l d m o e p f q r g n h (i++(E0++[[AV.val (.int .i64 b),AV.val (.int .i64 (iop .add .i64 (iop .add .i64 e d) (iop .mul .i64 a h))),AV.val (.int .i64 c),AV.val (.int .i64 f),AV.val (.int .i64 l),AV.val (.int .i64 j),AV.val (.bool g)]])) (iop .add .i64 a 1)
 else
 Zi (Z5 i (E0++[[AV.val (.int .i64 b),AV.val (.int .i64 (iop .add .i64 (iop .add .i64 e d) (iop .mul .i64 a h))),AV.val (.int .i64 c),AV.val (.int .i64 f),AV.val (.int .i64 0),AV.val (.int .i64 0),AV.val (.bool g)]]) 56)<|
 Ks k b c j l d m o e p f q r g n h (i++(E0++[[AV.val (.int .i64 b),AV.val (.int .i64 (iop .add .i64 (iop .add .i64 e d) (iop .mul .i64 a h))),AV.val (.int .i64 c),AV.val (.int .i64 f),AV.val (.int .i64 0),AV.val (.int .i64 0),AV.val (.bool g)]])) (iop .add .i64 a 1)
 else
 some (i,0)):=by kernel_rfl
theorem ZmM (g i b h j k:Int) (f:Bool) (c a l m d e:Int):g81 g i b h j k f c a l m d e =
 ((g76 g i b h j k f).bind fun n=>
 if (!n) then
 some (E0,5)
 else
 if (cop .neq g 1) then
 some (E0,5)
 else
 if (cop .eql (iop .and .i64 h 2) 0) then
 some (E0,8)
 else
 (g98 c a).bind fun o=>
 if (!o) then
 some (E0,1)
 else
 if (cop .eql c 3) then
 (g99 m l).bind fun p=>
 if (!p) then
 some (E0,1)
 else
 if (cop .lss e 1) then
 some (E0,1)
 else
 if (cop .gtr e 8) then
 some (E0,1)
 else
 if (cop .lss d 0) then
 some (E0,1)
 else
 if f then
 if (cop .neq c 1) then
 if (cop .neq c 2) then
 some (E0,5)
 else
 Zi ((0:Int)≤(IntKind.wrap .u64 a))<|
 Zi ((0:Int)≤(IntKind.wrap .u64 b))<|
 Zi (((iop .shl .i64 1 (IntKind.wrap .u64 a)):Int)≠0)<|
 if (cop .neq (iop .rem .i64 d (iop .shl .i64 1 (IntKind.wrap .u64 a))) 0) then
 some (E0,6)
 else
 if (cop .gtr d (iop .shl .i64 1 (IntKind.wrap .u64 b))) then
 some (E0,6)
 else
 if (cop .gtr (iop .mul .i64 e (iop .shl .i64 1 (IntKind.wrap .u64 a))) (iop .sub .i64 (iop .shl .i64 1 (IntKind.wrap .u64 b)) d)) then
 some (E0,6)
 else
 if (cop .eql c 1) then
 if (cop .geq a b) then
 some (E0,6)
 else
 Ks ZZ c a l m d e g i b h j k f (cop .eql c 3) (iop .shl .i64 1 (IntKind.wrap .u64 a)) E0 0
 else
 Ks ZZ c a l m d e g i b h j k f (cop .eql c 3) (iop .shl .i64 1 (IntKind.wrap .u64 a)) E0 0
 else
 Zi ((0:Int)≤(IntKind.wrap .u64 a))<|
 Zi ((0:Int)≤(IntKind.wrap .u64 b))<|
 Zi (((iop .shl .i64 1 (IntKind.wrap .u64 a)):Int)≠0)<|
 if (cop .neq (iop .rem .i64 d (iop .shl .i64 1 (IntKind.wrap .u64 a))) 0) then
 some (E0,6)
 else
 if (cop .gtr d (iop .shl .i64 1 (IntKind.wrap .u64 b))) then
 some (E0,6)
 else
 if (cop .gtr (iop .mul .i64 e (iop .shl .i64 1 (IntKind.wrap .u64 a))) (iop .sub .i64 (iop .shl .i64 1 (IntKind.wrap .u64 b)) d)) then
 some (E0,6)
 else
 if (cop .eql c 1) then
 if (cop .geq a b) then
 some (E0,6)
 else
 Ks ZZ c a l m d e g i b h j k f (cop .eql c 3) (iop .shl .i64 1 (IntKind.wrap .u64 a)) E0 0
 else
 Ks ZZ c a l m d e g i b h j k f (cop .eql c 3) (iop .shl .i64 1 (IntKind.wrap .u64 a)) E0 0
 else
 Zi ((0:Int)≤(IntKind.wrap .u64 a))<|
 Zi ((0:Int)≤(IntKind.wrap .u64 b))<|
 Zi (((iop .shl .i64 1 (IntKind.wrap .u64 a)):Int)≠0)<|
 if (cop .neq (iop .rem .i64 d (iop .shl .i64 1 (IntKind.wrap .u64 a))) 0) then
 some (E0,6)
 else
 if (cop .gtr d (iop .shl .i64 1 (IntKind.wrap .u64 b))) then
 some (E0,6)
 else
 if (cop .gtr (iop .mul .i64 e (iop .shl .i64 1 (IntKind.wrap .u64 a))) (iop .sub .i64 (iop .shl .i64 1 (IntKind.wrap .u64 b)) d)) then
 some (E0,6)
 else
 if (cop .eql c 1) then
 if (cop .geq a b) then
 some (E0,6)
 else
 Ks ZZ c a l m d e g i b h j k f (cop .eql c 3) (iop .shl .i64 1 (IntKind.wrap .u64 a)) E0 0
 else
 Ks ZZ c a l m d e g i b h j k f (cop .eql c 3) (iop .shl .i64 1 (IntKind.wrap .u64 a)) E0 0
 else
 if (cop .lss e 1) then
 some (E0,1)
 else
 if (cop .gtr e 8) then
 some (E0,1)
 else
 if (cop .lss d 0) then
 some (E0,1)
 else
 if f then
 if (cop .neq c 1) then
 if (cop .neq c 2) then
 some (E0,5)
 else
 Zi ((0:Int)≤(IntKind.wrap .u64 a))<|
 Zi ((0:Int)≤(IntKind.wrap .u64 b))<|
 Zi (((iop .shl .i64 1 (IntKind.wrap .u64 a)):Int)≠0)<|
 if (cop .neq (iop .rem .i64 d (iop .shl .i64 1 (IntKind.wrap .u64 a))) 0) then
 some (E0,6)
 else
 if (cop .gtr d (iop .shl .i64 1 (IntKind.wrap .u64 b))) then
 some (E0,6)
 else
 if (cop .gtr (iop .mul .i64 e (iop .shl .i64 1 (IntKind.wrap .u64 a))) (iop .sub .i64 (iop .shl .i64 1 (IntKind.wrap .u64 b)) d)) then
 some (E0,6)
 else
 if (cop .eql c 1) then
 if (cop .geq a b) then
 some (E0,6)
 else
 Ks ZZ c a l m d e g i b h j k f (cop .eql c 3) (iop .shl .i64 1 (IntKind.wrap .u64 a)) E0 0
 else
 Ks ZZ c a l m d e g i b h j k f (cop .eql c 3) (iop .shl .i64 1 (IntKind.wrap .u64 a)) E0 0
 else
 Zi ((0:Int)≤(IntKind.wrap .u64 a))<|
 Zi ((0:Int)≤(IntKind.wrap .u64 b))<|
 Zi (((iop .shl .i64 1 (IntKind.wrap .u64 a)):Int)≠0)<|
 if (cop .neq (iop .rem .i64 d (iop .shl .i64 1 (IntKind.wrap .u64 a))) 0) then
 some (E0,6)
 else
 if (cop .gtr d (iop .shl .i64 1 (IntKind.wrap .u64 b))) then
 some (E0,6)
 else
 if (cop .gtr (iop .mul .i64 e (iop .shl .i64 1 (IntKind.wrap .u64 a))) (iop .sub .i64 (iop .shl .i64 1 (IntKind.wrap .u64 b)) d)) then
 some (E0,6)
 else
 if (cop .eql c 1) then
 if (cop .geq a b) then
 some (E0,6)
 else
 Ks ZZ c a l m d e g i b h j k f (cop .eql c 3) (iop .shl .i64 1 (IntKind.wrap .u64 a)) E0 0
 else
 Ks ZZ c a l m d e g i b h j k f (cop .eql c 3) (iop .shl .i64 1 (IntKind.wrap .u64 a)) E0 0
 else
 Zi ((0:Int)≤(IntKind.wrap .u64 a))<|
 Zi ((0:Int)≤(IntKind.wrap .u64 b))<|
 Zi (((iop .shl .i64 1 (IntKind.wrap .u64 a)):Int)≠0)<|
 if (cop .neq (iop .rem .i64 d (iop .shl .i64 1 (IntKind.wrap .u64 a))) 0) then
 some (E0,6)
 else
 if (cop .gtr d (iop .shl .i64 1 (IntKind.wrap .u64 b))) then
 some (E0,6)
 else
 if (cop .gtr (iop .mul .i64 e (iop .shl .i64 1 (IntKind.wrap .u64 a))) (iop .sub .i64 (iop .shl .i64 1 (IntKind.wrap .u64 b)) d)) then
 some (E0,6)
 else
 if (cop .eql c 1) then
 if (cop .geq a b) then
 some (E0,6)
 else
 Ks ZZ c a l m d e g i b h j k f (cop .eql c 3) (iop .shl .i64 1 (IntKind.wrap .u64 a)) E0 0
 else
 Ks ZZ c a l m d e g i b h j k f (cop .eql c 3) (iop .shl .i64 1 (IntKind.wrap .u64 a)) E0 0):=by kernel_rfl
noncomputable def F82:Fn:=⟨49,[6,7],[],[],0,[],[],Tryz.f82,[.agg hs6,.agg [.int .i64,.int .i64,.int .i64],.agg hs14],[.agg hs6,.c (.int .i64)],[(74,F74.S),(97,F97.S),(76,F76.S),(84,F84.S),(80,F80.S)]⟩
theorem Zpp:F82.S.Ok Tryz.prog 82:=F82.ok Tryz.func82 (by kernel_rfl) ⟨ZpF,⟨ZoV,⟨Zn0,⟨ZoJ,⟨Zpd,trivial⟩⟩⟩⟩⟩
noncomputable def g82 (a c d:Int) (e:LL) (f h j k m n:Int) (o:Bool) (p q r s t u v w x:Int) (y:Bool):Option (Qt16):=F82.S.g [.i a,.i c,.i d,.l e,.i f,.i h,.i j,.i k,.i m,.i n,.b o,.i p,.i q,.i r,.i s,.i t,.i u,.i v,.i w,.i x,.b y]
theorem Zof (a b c:Int) (d:LL) (o p q r s t:Int) (u:Bool) (e f g h i j k l m:Int) (n:Bool):g82 a b c d o p q r s t u e f g h i j k l m n =
 ((g74 a b c d o p q r s t u).bind fun w=>
 if (!w) then
 some (0,0,0,E0,0,0,0,0,0,0,false,1)
 else
 (g97 e f g).bind fun x=>
 if (!x) then
 some (0,0,0,E0,0,0,0,0,0,0,false,1)
 else
 (g76 h i j k l m n).bind fun y=>
 if (!y) then
 some (0,0,0,E0,0,0,0,0,0,0,false,1)
 else
 if ((cop .eql e a)&&((cop .eql f b)&&((cop .eql g c)&&true))) then
 some (0,0,0,E0,0,0,0,0,0,0,false,1)
 else
 (g84 d e f g).bind fun z=>
 if z then
 some (0,0,0,E0,0,0,0,0,0,0,false,1)
 else
 if (cop .eql (List.length d:Int) 8) then
 some (0,0,0,E0,0,0,0,0,0,0,false,9)
 else
 (g80 d).bind fun v=>
 Zi (Z5 v (E0++[[AV.val (.int .i64 a),AV.val (.int .i64 b),AV.val (.int .i64 c)]]) 24)<|
 some (e,f,g,(v++(E0++[[AV.val (.int .i64 a),AV.val (.int .i64 b),AV.val (.int .i64 c)]])),h,i,j,k,l,m,n,0)):=by kernel_rfl
noncomputable def F45:Fn:=⟨92,[10],[(12,[(0,.box hs7),(1,.c (.int .i64)),(2,.c (.int .i64)),(8,.box hs6),(9,.box hs4),(11,.c (.slice 7)),(13,.c (.own false 51)),(14,.c (.int .i64))])],[0],0,[],[],Tryz.f45,[.box hs7,.c (.int .i64),.c (.int .i64),.agg hs6,.agg hs4],[.c (.int .i64)],[(81,F81.S),(38,F38.S),(39,F39.S),(82,F82.S),(40,F40.S)]⟩
theorem ZqO:F45.S.Ok Tryz.prog 45:=F45.ok Tryz.func45 (by kernel_rfl) ⟨Zp9,⟨ZoG,⟨ZpJ,⟨Zpp,⟨Zou,trivial⟩⟩⟩⟩⟩
noncomputable def g45 (a:LL) (c d:Int) (e f h j k m n:LL) (o p q r s:Int) (t:LL) (u v w x y z:Int) (A:Bool) (C D E G H J K L M N O P:Int):Option (Qt21):=F45.S.g [.l a,.i c,.i d,.l e,.l f,.l h,.l j,.l k,.l m,.l n,.i o,.i p,.i q,.i r,.i s,.l t,.i u,.i v,.i w,.i x,.i y,.i z,.b A,.i C,.i D,.i E,.i G,.i H,.i J,.i K,.i L,.i M,.i N,.i O,.i P]
noncomputable def ZhH (k:Nat) (a:LL) (c d:Int) (e f g h j m n:LL) (o p q r s:Int) (t:LL) (u v w x y z:Int) (A:Bool) (C D E G H J K L M N O P:Int) (Q R:LL) (T:Int):Option (Qt21):=F45.lp [2,1,0,1,1,0,1,0] 0 r0 k [.l a,.i c,.i d,.l e,.l f,.l g,.l h,.l j,.l m,.l n,.i o,.i p,.i q,.i r,.i s,.l t,.i u,.i v,.i w,.i x,.i y,.i z,.b A,.i C,.i D,.i E,.i G,.i H,.i J,.i K,.i L,.i M,.i N,.i O,.i P,.l Q,.l R,.i T]
theorem ZjD (k:Nat) (g:LL) (h i:Int) (j l m n o p q:LL) (d r s t u:Int) (v:LL) (w x y z A C:Int) (D:Bool) (G H E J K L M N O P Q R:Int) (e f:LL) (c:Int):ZhH (k+1) g h i j l m n o p q d r s t u v w x y z A C D G H E J K L M N O P Q R e f c =
 (if (cop .lss c (List.length e:Int)) then
 Zj e c hs14 fun (b:Qt24)=>
 (g82 s t u v w x y z A C D d r c b.1 b.2.1 b.2.2.1 b.2.2.2.1 b.2.2.2.2.1 b.2.2.2.2.2.1 b.2.2.2.2.2.2).bind fun a=>
 Zi (Z5 f (E0++[[AV.val (.int .i64 a.1),AV.val (.int .i64 a.2.1),AV.val (.int .i64 a.2.2.1),AV.slice false 3 a.2.2.2.1,AV.val (.int .i64 a.2.2.2.2.1),AV.val (.int .i64 a.2.2.2.2.2.1),AV.val (.int .i64 a.2.2.2.2.2.2.1),AV.val (.int .i64 a.2.2.2.2.2.2.2.1),AV.val (.int .i64 a.2.2.2.2.2.2.2.2.1),AV.val (.int .i64 a.2.2.2.2.2.2.2.2.2.1),AV.val (.bool a.2.2.2.2.2.2.2.2.2.2.1)]]) 104)<|
 ZhH k g h i j l m n o p q d r s t u v w x y z A C D G H E J K L M N O P Q R e (f++(E0++[[AV.val (.int .i64 a.1),AV.val (.int .i64 a.2.1),AV.val (.int .i64 a.2.2.1),AV.slice false 3 a.2.2.2.1,AV.val (.int .i64 a.2.2.2.2.1),AV.val (.int .i64 a.2.2.2.2.2.1),AV.val (.int .i64 a.2.2.2.2.2.2.1),AV.val (.int .i64 a.2.2.2.2.2.2.2.1),AV.val (.int .i64 a.2.2.2.2.2.2.2.2.1),AV.val (.int .i64 a.2.2.2.2.2.2.2.2.2.1),AV.val (.bool a.2.2.2.2.2.2.2.2.2.2.1)]])) (iop .add .i64 c 1)
 else
 (g40 g h i j l m n o p q d E f).bind fun b=>
 some (0,b.1,b.2.1,b.2.2.1,b.2.2.2.1,b.2.2.2.2.1,b.2.2.2.2.2.1,b.2.2.2.2.2.2.1,b.2.2.2.2.2.2.2.1,b.2.2.2.2.2.2.2.2.1,b.2.2.2.2.2.2.2.2.2)):=by kernel_rfl
theorem Zng (b:LL) (f g:Int) (h i j k l m n:LL) (c G o p q:Int) (r:LL) (s t u v w x:Int) (y:Bool) (H J z K L A C D E d M N:Int):g45 b f g h i j k l m n c G o p q r s t u v w x y H J z K L A C D E d M N =
 (Zj b c [.int .i64] fun (O:Int)=>
 (g81 s t u v w x y A C D O E d).bind fun e=>
 if (cop .neq e.2 0) then
 some (e.2,b,f,g,h,i,j,k,l,m,n)
 else
 (g38 b f g h i j k l m n c z d).bind fun a=>
 if a.1 then
 some (3,a.2.1,a.2.2.1,a.2.2.2.1,a.2.2.2.2.1,a.2.2.2.2.2.1,a.2.2.2.2.2.2.1,a.2.2.2.2.2.2.2.1,a.2.2.2.2.2.2.2.2.1,a.2.2.2.2.2.2.2.2.2.1,a.2.2.2.2.2.2.2.2.2.2)
 else
 if (cop .eql (List.length r:Int) 8) then
 some (9,a.2.1,a.2.2.1,a.2.2.2.1,a.2.2.2.2.1,a.2.2.2.2.2.1,a.2.2.2.2.2.2.1,a.2.2.2.2.2.2.2.1,a.2.2.2.2.2.2.2.2.1,a.2.2.2.2.2.2.2.2.2.1,a.2.2.2.2.2.2.2.2.2.2)
 else
 (g39 a.2.2.2.2.2.2.1 o p q e.1).bind fun P=>
 if P then
 some (7,a.2.1,a.2.2.1,a.2.2.2.1,a.2.2.2.2.1,a.2.2.2.2.2.1,a.2.2.2.2.2.2.1,a.2.2.2.2.2.2.2.1,a.2.2.2.2.2.2.2.2.1,a.2.2.2.2.2.2.2.2.2.1,a.2.2.2.2.2.2.2.2.2.2)
 else
 ZhH ZZ a.2.1 a.2.2.1 a.2.2.2.1 a.2.2.2.2.1 a.2.2.2.2.2.1 a.2.2.2.2.2.2.1 a.2.2.2.2.2.2.2.1 a.2.2.2.2.2.2.2.2.1 a.2.2.2.2.2.2.2.2.2.1 a.2.2.2.2.2.2.2.2.2.2 c G o p q r s t u v w x y H J z K L A C D E d M N e.1 E0 0):=by kernel_rfl
noncomputable def F83:Fn:=⟨11,[4],[],[],0,[],[],Tryz.f83,[.agg hs14,.c (.int .i64)],[.agg hs14],[]⟩
theorem ZpS:F83.S.Ok Tryz.prog 83:=F83.ok Tryz.func83 (by kernel_rfl) trivial
noncomputable def g83 (a c d e f h:Int) (j:Bool) (k:Int):Option (Qt24):=F83.S.g [.i a,.i c,.i d,.i e,.i f,.i h,.b j,.i k]
theorem Zn5 (a b c d e f:Int) (g:Bool) (h:Int):g83 a b c d e f g h =
 (some (a,b,c,(iop .and .i64 d h),e,f,g)):=by kernel_rfl
noncomputable def F46:Fn:=⟨42,[10],[],[0],0,[],[],Tryz.f46,[.box hs7,.c (.int .i64),.c (.int .i64),.agg hs6,.agg hs4],[.c (.int .i64)],[(38,F38.S),(83,F83.S),(82,F82.S),(40,F40.S)]⟩
theorem Zqp:F46.S.Ok Tryz.prog 46:=F46.ok Tryz.func46 (by kernel_rfl) ⟨ZoG,⟨ZpS,⟨Zpp,⟨Zou,trivial⟩⟩⟩⟩
noncomputable def g46 (a:LL) (c d:Int) (e f h j k m n:LL) (o p q r s:Int) (t:LL) (u v w x y z:Int) (A:Bool) (C D E G H J K L M N O P:Int):Option (Qt21):=F46.S.g [.l a,.i c,.i d,.l e,.l f,.l h,.l j,.l k,.l m,.l n,.i o,.i p,.i q,.i r,.i s,.l t,.i u,.i v,.i w,.i x,.i y,.i z,.b A,.i C,.i D,.i E,.i G,.i H,.i J,.i K,.i L,.i M,.i N,.i O,.i P]
theorem Zm6 (o:LL) (p q:Int) (r s t u v w x:LL) (e y z A C:Int) (f:LL) (g h i j k l:Int) (m:Bool) (E G n H D J K L M N O P:Int):g46 o p q r s t u v w x e y z A C f g h i j k l m E G n H D J K L M N O P =
 ((g38 o p q r s t u v w x e n 1).bind fun a=>
 if a.1 then
 some (3,a.2.1,a.2.2.1,a.2.2.2.1,a.2.2.2.2.1,a.2.2.2.2.2.1,a.2.2.2.2.2.2.1,a.2.2.2.2.2.2.2.1,a.2.2.2.2.2.2.2.2.1,a.2.2.2.2.2.2.2.2.2.1,a.2.2.2.2.2.2.2.2.2.2)
 else
 if (cop .eql (List.length f:Int) 8) then
 some (9,a.2.1,a.2.2.1,a.2.2.2.1,a.2.2.2.2.1,a.2.2.2.2.2.1,a.2.2.2.2.2.2.1,a.2.2.2.2.2.2.2.1,a.2.2.2.2.2.2.2.2.1,a.2.2.2.2.2.2.2.2.2.1,a.2.2.2.2.2.2.2.2.2.2)
 else
 (g83 g h i j k l m D).bind fun d=>
 (g82 z A C f g h i j k l m e y 0 d.1 d.2.1 d.2.2.1 d.2.2.2.1 d.2.2.2.2.1 d.2.2.2.2.2.1 d.2.2.2.2.2.2).bind fun b=>
 (g40 a.2.1 a.2.2.1 a.2.2.2.1 a.2.2.2.2.1 a.2.2.2.2.2.1 a.2.2.2.2.2.2.1 a.2.2.2.2.2.2.2.1 a.2.2.2.2.2.2.2.2.1 a.2.2.2.2.2.2.2.2.2.1 a.2.2.2.2.2.2.2.2.2.2 e n (E0++[[AV.val (.int .i64 b.1),AV.val (.int .i64 b.2.1),AV.val (.int .i64 b.2.2.1),AV.slice false 3 b.2.2.2.1,AV.val (.int .i64 b.2.2.2.2.1),AV.val (.int .i64 b.2.2.2.2.2.1),AV.val (.int .i64 b.2.2.2.2.2.2.1),AV.val (.int .i64 b.2.2.2.2.2.2.2.1),AV.val (.int .i64 b.2.2.2.2.2.2.2.2.1),AV.val (.int .i64 b.2.2.2.2.2.2.2.2.2.1),AV.val (.bool b.2.2.2.2.2.2.2.2.2.2.1)]])).bind fun c=>
 some (0,c.1,c.2.1,c.2.2.1,c.2.2.2.1,c.2.2.2.2.1,c.2.2.2.2.2.1,c.2.2.2.2.2.2.1,c.2.2.2.2.2.2.2.1,c.2.2.2.2.2.2.2.2.1,c.2.2.2.2.2.2.2.2.2)):=by kernel_rfl
noncomputable def F47:Fn:=⟨75,[10],[],[0],0,[],[],Tryz.f47,[.box hs7,.c (.int .i64),.c (.int .i64),.agg hs6,.agg hs4],[.c (.int .i64)],[(15,F15.S),(38,F38.S),(83,F83.S),(82,F82.S),(40,F40.S)]⟩
theorem ZqT:F47.S.Ok Tryz.prog 47:=F47.ok Tryz.func47 (by kernel_rfl) ⟨ZpI,⟨ZoG,⟨ZpS,⟨Zpp,⟨Zou,trivial⟩⟩⟩⟩⟩
noncomputable def g47 (a:LL) (c d:Int) (e f h j k m n:LL) (o p q r s:Int) (t:LL) (u v w x y z:Int) (A:Bool) (C D E G H J K L M N O P:Int):Option (Qt21):=F47.S.g [.l a,.i c,.i d,.l e,.l f,.l h,.l j,.l k,.l m,.l n,.i o,.i p,.i q,.i r,.i s,.l t,.i u,.i v,.i w,.i x,.i y,.i z,.b A,.i C,.i D,.i E,.i G,.i H,.i J,.i K,.i L,.i M,.i N,.i O,.i P]
theorem Zod (e:LL) (f g:Int) (h i j k l m n:LL) (z A C D E:Int) (s:LL) (p t u q v w:Int) (x:Bool) (H J y r G K L M N O P Q:Int):g47 e f g h i j k l m n z A C D E s p t u q v w x H J y r G K L M N O P Q =
 (if (cop .eql p 3) then
 some (5,e,f,g,h,i,j,k,l,m,n)
 else
 if (cop .eql p 5) then
 some (5,e,f,g,h,i,j,k,l,m,n)
 else
 if (cop .eql p 6) then
 some (5,e,f,g,h,i,j,k,l,m,n)
 else
 if (cop .eql (iop .and .i64 q 4) 0) then
 some (8,e,f,g,h,i,j,k,l,m,n)
 else
 if (cop .eql (List.length s:Int) 8) then
 some (9,e,f,g,h,i,j,k,l,m,n)
 else
 (g15 e f g h i j k l m n r).bind fun a=>
 if (!a.1) then
 some (10,a.2.1,a.2.2.1,a.2.2.2.1,a.2.2.2.2.1,a.2.2.2.2.2.1,a.2.2.2.2.2.2.1,a.2.2.2.2.2.2.2.1,a.2.2.2.2.2.2.2.2.1,a.2.2.2.2.2.2.2.2.2.1,a.2.2.2.2.2.2.2.2.2.2)
 else
 (g38 a.2.1 a.2.2.1 a.2.2.2.1 a.2.2.2.2.1 a.2.2.2.2.2.1 a.2.2.2.2.2.2.1 a.2.2.2.2.2.2.2.1 a.2.2.2.2.2.2.2.2.1 a.2.2.2.2.2.2.2.2.2.1 a.2.2.2.2.2.2.2.2.2.2 r y 1).bind fun b=>
 if b.1 then
 some (3,b.2.1,b.2.2.1,b.2.2.2.1,b.2.2.2.2.1,b.2.2.2.2.2.1,b.2.2.2.2.2.2.1,b.2.2.2.2.2.2.2.1,b.2.2.2.2.2.2.2.2.1,b.2.2.2.2.2.2.2.2.2.1,b.2.2.2.2.2.2.2.2.2.2)
 else
 (g83 p t u q v w x G).bind fun o=>
 (g82 C D E s p t u q v w x z A 0 o.1 o.2.1 o.2.2.1 o.2.2.2.1 o.2.2.2.2.1 o.2.2.2.2.2.1 o.2.2.2.2.2.2).bind fun c=>
 (g40 b.2.1 b.2.2.1 b.2.2.2.1 b.2.2.2.2.1 b.2.2.2.2.2.1 b.2.2.2.2.2.2.1 b.2.2.2.2.2.2.2.1 b.2.2.2.2.2.2.2.2.1 b.2.2.2.2.2.2.2.2.2.1 b.2.2.2.2.2.2.2.2.2.2 r y (E0++[[AV.val (.int .i64 c.1),AV.val (.int .i64 c.2.1),AV.val (.int .i64 c.2.2.1),AV.slice false 3 c.2.2.2.1,AV.val (.int .i64 c.2.2.2.2.1),AV.val (.int .i64 c.2.2.2.2.2.1),AV.val (.int .i64 c.2.2.2.2.2.2.1),AV.val (.int .i64 c.2.2.2.2.2.2.2.1),AV.val (.int .i64 c.2.2.2.2.2.2.2.2.1),AV.val (.int .i64 c.2.2.2.2.2.2.2.2.2.1),AV.val (.bool c.2.2.2.2.2.2.2.2.2.2.1)]])).bind fun d=>
 some (0,d.1,d.2.1,d.2.2.1,d.2.2.2.1,d.2.2.2.2.1,d.2.2.2.2.2.1,d.2.2.2.2.2.2.1,d.2.2.2.2.2.2.2.1,d.2.2.2.2.2.2.2.2.1,d.2.2.2.2.2.2.2.2.2)):=by kernel_rfl
noncomputable def F20:Fn:=⟨162,[8],[],[0],0,[],[],Tryz.f20,[.box hs7,.c (.int .i64),.c (.int .i64),.agg hs4],[.c (.int .i64)],[(36,F36.S),(41,F41.S),(45,F45.S),(46,F46.S),(47,F47.S),(48,F48.S),(50,F50.S),(49,F49.S)]⟩
theorem ZqH:F20.S.Ok Tryz.prog 20:=F20.ok Tryz.func20 (by kernel_rfl) ⟨Zm3,⟨ZmZ,⟨ZqO,⟨Zqp,⟨ZqT,⟨ZqQ,⟨Zqv,⟨Zp8,trivial⟩⟩⟩⟩⟩⟩⟩⟩
noncomputable def g20 (a:LL) (b c:Int) (d e f h j k m:LL) (n o p q r s t u v w x y z A:Int):Option (Qt21):=F20.S.g [.l a,.i b,.i c,.l d,.l e,.l f,.l h,.l j,.l k,.l m,.i n,.i o,.i p,.i q,.i r,.i s,.i t,.i u,.i v,.i w,.i x,.i y,.i z,.i A]
theorem ZmC (x:LL) (y z:Int) (A C D E G H J:LL) (k q f l m o n r s t u p v w:Int):g20 x y z A C D E G H J k q f l m o n r s t u p v w =
 ((g36 x y z A C D E G H J l).bind fun c=>
 if (!c.1) then
 some (1,c.2.1,c.2.2.1,c.2.2.2.1,c.2.2.2.2.1,c.2.2.2.2.2.1,c.2.2.2.2.2.2.1,c.2.2.2.2.2.2.2.1,c.2.2.2.2.2.2.2.2.1,c.2.2.2.2.2.2.2.2.2.1,c.2.2.2.2.2.2.2.2.2.2)
 else
 if (cop .eql f 2) then
 if (cop .lss p 1) then
 some (1,c.2.1,c.2.2.1,c.2.2.2.1,c.2.2.2.2.1,c.2.2.2.2.2.1,c.2.2.2.2.2.2.1,c.2.2.2.2.2.2.2.1,c.2.2.2.2.2.2.2.2.1,c.2.2.2.2.2.2.2.2.2.1,c.2.2.2.2.2.2.2.2.2.2)
 else
 if (cop .gtr p 8) then
 some (1,c.2.1,c.2.2.1,c.2.2.2.1,c.2.2.2.2.1,c.2.2.2.2.2.1,c.2.2.2.2.2.2.1,c.2.2.2.2.2.2.2.1,c.2.2.2.2.2.2.2.2.1,c.2.2.2.2.2.2.2.2.2.1,c.2.2.2.2.2.2.2.2.2.2)
 else
 if (cop .lss m 0) then
 some (1,c.2.1,c.2.2.1,c.2.2.2.1,c.2.2.2.2.1,c.2.2.2.2.2.1,c.2.2.2.2.2.2.1,c.2.2.2.2.2.2.2.1,c.2.2.2.2.2.2.2.2.1,c.2.2.2.2.2.2.2.2.2.1,c.2.2.2.2.2.2.2.2.2.2)
 else
 if (cop .gtr m (iop .sub .i64 c.2.2.2.1 p)) then
 some (1,c.2.1,c.2.2.1,c.2.2.2.1,c.2.2.2.2.1,c.2.2.2.2.2.1,c.2.2.2.2.2.2.1,c.2.2.2.2.2.2.2.1,c.2.2.2.2.2.2.2.2.1,c.2.2.2.2.2.2.2.2.2.1,c.2.2.2.2.2.2.2.2.2.2)
 else
 (g41 c.2.1 c.2.2.1 c.2.2.2.1 c.2.2.2.2.1 c.2.2.2.2.2.1 c.2.2.2.2.2.2.1 c.2.2.2.2.2.2.2.1 c.2.2.2.2.2.2.2.2.1 c.2.2.2.2.2.2.2.2.2.1 c.2.2.2.2.2.2.2.2.2.2 k l).bind fun a=>
 if (!a.2.2.2.2.2.2.2.2.2.2.2.1) then
 some (2,(d4 (d8 a)).1,(d4 (d8 a)).2.1,(d2 (d4 (d8 a))).1,(d2 (d4 (d8 a))).2.1,(d16 a).1,(d16 a).2.1,(d2 (d16 a)).1,(d2 (d16 a)).2.1,(d4 (d16 a)).1,(d4 (d16 a)).2)
 else
 if (cop .eql f 2) then
 (g45 (d4 (d8 a)).1 (d4 (d8 a)).2.1 (d2 (d4 (d8 a))).1 (d2 (d4 (d8 a))).2.1 (d16 a).1 (d16 a).2.1 (d2 (d16 a)).1 (d2 (d16 a)).2.1 (d4 (d16 a)).1 (d4 (d16 a)).2 k q a.1 a.2.1 a.2.2.1 a.2.2.2.1 a.2.2.2.2.1 a.2.2.2.2.2.1 a.2.2.2.2.2.2.1 a.2.2.2.2.2.2.2.1 a.2.2.2.2.2.2.2.2.1 a.2.2.2.2.2.2.2.2.2.1 a.2.2.2.2.2.2.2.2.2.2.1 f l m o n r s t u p v w).bind fun d=>
 some (d.1,d.2.1,d.2.2.1,d.2.2.2.1,d.2.2.2.2.1,d.2.2.2.2.2.1,d.2.2.2.2.2.2.1,d.2.2.2.2.2.2.2.1,d.2.2.2.2.2.2.2.2.1,d.2.2.2.2.2.2.2.2.2.1,d.2.2.2.2.2.2.2.2.2.2)
 else
 if (cop .eql f 3) then
 (g46 (d4 (d8 a)).1 (d4 (d8 a)).2.1 (d2 (d4 (d8 a))).1 (d2 (d4 (d8 a))).2.1 (d16 a).1 (d16 a).2.1 (d2 (d16 a)).1 (d2 (d16 a)).2.1 (d4 (d16 a)).1 (d4 (d16 a)).2 k q a.1 a.2.1 a.2.2.1 a.2.2.2.1 a.2.2.2.2.1 a.2.2.2.2.2.1 a.2.2.2.2.2.2.1 a.2.2.2.2.2.2.2.1 a.2.2.2.2.2.2.2.2.1 a.2.2.2.2.2.2.2.2.2.1 a.2.2.2.2.2.2.2.2.2.2.1 f l m o n r s t u p v w).bind fun d=>
 some (d.1,d.2.1,d.2.2.1,d.2.2.2.1,d.2.2.2.2.1,d.2.2.2.2.2.1,d.2.2.2.2.2.2.1,d.2.2.2.2.2.2.2.1,d.2.2.2.2.2.2.2.2.1,d.2.2.2.2.2.2.2.2.2.1,d.2.2.2.2.2.2.2.2.2.2)
 else
 if (cop .eql f 4) then
 (g47 (d4 (d8 a)).1 (d4 (d8 a)).2.1 (d2 (d4 (d8 a))).1 (d2 (d4 (d8 a))).2.1 (d16 a).1 (d16 a).2.1 (d2 (d16 a)).1 (d2 (d16 a)).2.1 (d4 (d16 a)).1 (d4 (d16 a)).2 k q a.1 a.2.1 a.2.2.1 a.2.2.2.1 a.2.2.2.2.1 a.2.2.2.2.2.1 a.2.2.2.2.2.2.1 a.2.2.2.2.2.2.2.1 a.2.2.2.2.2.2.2.2.1 a.2.2.2.2.2.2.2.2.2.1 a.2.2.2.2.2.2.2.2.2.2.1 f l m o n r s t u p v w).bind fun d=>
 some (d.1,d.2.1,d.2.2.1,d.2.2.2.1,d.2.2.2.2.1,d.2.2.2.2.2.1,d.2.2.2.2.2.2.1,d.2.2.2.2.2.2.2.1,d.2.2.2.2.2.2.2.2.1,d.2.2.2.2.2.2.2.2.2.1,d.2.2.2.2.2.2.2.2.2.2)
 else
 if (cop .eql f 5) then
 (g48 (d16 a).2.1 a.1 a.2.1 a.2.2.1).bind fun d=>
 (g50 (d4 (d8 a)).1 (d4 (d8 a)).2.1 (d2 (d4 (d8 a))).1 (d2 (d4 (d8 a))).2.1 (d16 a).1 d.1 (d2 (d16 a)).1 (d2 (d16 a)).2.1 (d4 (d16 a)).1 (d4 (d16 a)).2).bind fun g=>
 some (0,g.1,g.2.1,g.2.2.1,g.2.2.2.1,g.2.2.2.2.1,g.2.2.2.2.2.1,g.2.2.2.2.2.2.1,g.2.2.2.2.2.2.2.1,g.2.2.2.2.2.2.2.2.1,g.2.2.2.2.2.2.2.2.2)
 else
 (g49 (d16 a).2.1 a.1 a.2.1 a.2.2.1).bind fun d=>
 (g50 (d4 (d8 a)).1 (d4 (d8 a)).2.1 (d2 (d4 (d8 a))).1 (d2 (d4 (d8 a))).2.1 (d16 a).1 d (d2 (d16 a)).1 (d2 (d16 a)).2.1 (d4 (d16 a)).1 (d4 (d16 a)).2).bind fun h=>
 some (0,h.1,h.2.1,h.2.2.1,h.2.2.2.1,h.2.2.2.2.1,h.2.2.2.2.2.1,h.2.2.2.2.2.2.1,h.2.2.2.2.2.2.2.1,h.2.2.2.2.2.2.2.2.1,h.2.2.2.2.2.2.2.2.2)
 else
 if (cop .eql f 3) then
 (g36 c.2.1 c.2.2.1 c.2.2.2.1 c.2.2.2.2.1 c.2.2.2.2.2.1 c.2.2.2.2.2.2.1 c.2.2.2.2.2.2.2.1 c.2.2.2.2.2.2.2.2.1 c.2.2.2.2.2.2.2.2.2.1 c.2.2.2.2.2.2.2.2.2.2 m).bind fun a=>
 if (!a.1) then
 some (1,a.2.1,a.2.2.1,a.2.2.2.1,a.2.2.2.2.1,a.2.2.2.2.2.1,a.2.2.2.2.2.2.1,a.2.2.2.2.2.2.2.1,a.2.2.2.2.2.2.2.2.1,a.2.2.2.2.2.2.2.2.2.1,a.2.2.2.2.2.2.2.2.2.2)
 else
 if (cop .lss n 0) then
 some (1,a.2.1,a.2.2.1,a.2.2.2.1,a.2.2.2.2.1,a.2.2.2.2.2.1,a.2.2.2.2.2.2.1,a.2.2.2.2.2.2.2.1,a.2.2.2.2.2.2.2.2.1,a.2.2.2.2.2.2.2.2.2.1,a.2.2.2.2.2.2.2.2.2.2)
 else
 if (cop .gtr n 7) then
 some (1,a.2.1,a.2.2.1,a.2.2.2.1,a.2.2.2.2.1,a.2.2.2.2.2.1,a.2.2.2.2.2.2.1,a.2.2.2.2.2.2.2.1,a.2.2.2.2.2.2.2.2.1,a.2.2.2.2.2.2.2.2.2.1,a.2.2.2.2.2.2.2.2.2.2)
 else
 (g41 a.2.1 a.2.2.1 a.2.2.2.1 a.2.2.2.2.1 a.2.2.2.2.2.1 a.2.2.2.2.2.2.1 a.2.2.2.2.2.2.2.1 a.2.2.2.2.2.2.2.2.1 a.2.2.2.2.2.2.2.2.2.1 a.2.2.2.2.2.2.2.2.2.2 k l).bind fun b=>
 if (!b.2.2.2.2.2.2.2.2.2.2.2.1) then
 some (2,(d4 (d8 b)).1,(d4 (d8 b)).2.1,(d2 (d4 (d8 b))).1,(d2 (d4 (d8 b))).2.1,(d16 b).1,(d16 b).2.1,(d2 (d16 b)).1,(d2 (d16 b)).2.1,(d4 (d16 b)).1,(d4 (d16 b)).2)
 else
 if (cop .eql f 2) then
 (g45 (d4 (d8 b)).1 (d4 (d8 b)).2.1 (d2 (d4 (d8 b))).1 (d2 (d4 (d8 b))).2.1 (d16 b).1 (d16 b).2.1 (d2 (d16 b)).1 (d2 (d16 b)).2.1 (d4 (d16 b)).1 (d4 (d16 b)).2 k q b.1 b.2.1 b.2.2.1 b.2.2.2.1 b.2.2.2.2.1 b.2.2.2.2.2.1 b.2.2.2.2.2.2.1 b.2.2.2.2.2.2.2.1 b.2.2.2.2.2.2.2.2.1 b.2.2.2.2.2.2.2.2.2.1 b.2.2.2.2.2.2.2.2.2.2.1 f l m o n r s t u p v w).bind fun e=>
 some (e.1,e.2.1,e.2.2.1,e.2.2.2.1,e.2.2.2.2.1,e.2.2.2.2.2.1,e.2.2.2.2.2.2.1,e.2.2.2.2.2.2.2.1,e.2.2.2.2.2.2.2.2.1,e.2.2.2.2.2.2.2.2.2.1,e.2.2.2.2.2.2.2.2.2.2)
 else
 if (cop .eql f 3) then
 (g46 (d4 (d8 b)).1 (d4 (d8 b)).2.1 (d2 (d4 (d8 b))).1 (d2 (d4 (d8 b))).2.1 (d16 b).1 (d16 b).2.1 (d2 (d16 b)).1 (d2 (d16 b)).2.1 (d4 (d16 b)).1 (d4 (d16 b)).2 k q b.1 b.2.1 b.2.2.1 b.2.2.2.1 b.2.2.2.2.1 b.2.2.2.2.2.1 b.2.2.2.2.2.2.1 b.2.2.2.2.2.2.2.1 b.2.2.2.2.2.2.2.2.1 b.2.2.2.2.2.2.2.2.2.1 b.2.2.2.2.2.2.2.2.2.2.1 f l m o n r s t u p v w).bind fun e=>
 some (e.1,e.2.1,e.2.2.1,e.2.2.2.1,e.2.2.2.2.1,e.2.2.2.2.2.1,e.2.2.2.2.2.2.1,e.2.2.2.2.2.2.2.1,e.2.2.2.2.2.2.2.2.1,e.2.2.2.2.2.2.2.2.2.1,e.2.2.2.2.2.2.2.2.2.2)
 else
 if (cop .eql f 4) then
 (g47 (d4 (d8 b)).1 (d4 (d8 b)).2.1 (d2 (d4 (d8 b))).1 (d2 (d4 (d8 b))).2.1 (d16 b).1 (d16 b).2.1 (d2 (d16 b)).1 (d2 (d16 b)).2.1 (d4 (d16 b)).1 (d4 (d16 b)).2 k q b.1 b.2.1 b.2.2.1 b.2.2.2.1 b.2.2.2.2.1 b.2.2.2.2.2.1 b.2.2.2.2.2.2.1 b.2.2.2.2.2.2.2.1 b.2.2.2.2.2.2.2.2.1 b.2.2.2.2.2.2.2.2.2.1 b.2.2.2.2.2.2.2.2.2.2.1 f l m o n r s t u p v w).bind fun e=>
 some (e.1,e.2.1,e.2.2.1,e.2.2.2.1,e.2.2.2.2.1,e.2.2.2.2.2.1,e.2.2.2.2.2.2.1,e.2.2.2.2.2.2.2.1,e.2.2.2.2.2.2.2.2.1,e.2.2.2.2.2.2.2.2.2.1,e.2.2.2.2.2.2.2.2.2.2)
 else
 if (cop .eql f 5) then
 (g48 (d16 b).2.1 b.1 b.2.1 b.2.2.1).bind fun e=>
 (g50 (d4 (d8 b)).1 (d4 (d8 b)).2.1 (d2 (d4 (d8 b))).1 (d2 (d4 (d8 b))).2.1 (d16 b).1 e.1 (d2 (d16 b)).1 (d2 (d16 b)).2.1 (d4 (d16 b)).1 (d4 (d16 b)).2).bind fun i=>
 some (0,i.1,i.2.1,i.2.2.1,i.2.2.2.1,i.2.2.2.2.1,i.2.2.2.2.2.1,i.2.2.2.2.2.2.1,i.2.2.2.2.2.2.2.1,i.2.2.2.2.2.2.2.2.1,i.2.2.2.2.2.2.2.2.2)
 else
 (g49 (d16 b).2.1 b.1 b.2.1 b.2.2.1).bind fun e=>
 (g50 (d4 (d8 b)).1 (d4 (d8 b)).2.1 (d2 (d4 (d8 b))).1 (d2 (d4 (d8 b))).2.1 (d16 b).1 e (d2 (d16 b)).1 (d2 (d16 b)).2.1 (d4 (d16 b)).1 (d4 (d16 b)).2).bind fun j=>
 some (0,j.1,j.2.1,j.2.2.1,j.2.2.2.1,j.2.2.2.2.1,j.2.2.2.2.2.1,j.2.2.2.2.2.2.1,j.2.2.2.2.2.2.2.1,j.2.2.2.2.2.2.2.2.1,j.2.2.2.2.2.2.2.2.2)
 else
 if (cop .eql f 4) then
 (g36 c.2.1 c.2.2.1 c.2.2.2.1 c.2.2.2.2.1 c.2.2.2.2.2.1 c.2.2.2.2.2.2.1 c.2.2.2.2.2.2.2.1 c.2.2.2.2.2.2.2.2.1 c.2.2.2.2.2.2.2.2.2.1 c.2.2.2.2.2.2.2.2.2.2 m).bind fun a=>
 if (!a.1) then
 some (1,a.2.1,a.2.2.1,a.2.2.2.1,a.2.2.2.2.1,a.2.2.2.2.2.1,a.2.2.2.2.2.2.1,a.2.2.2.2.2.2.2.1,a.2.2.2.2.2.2.2.2.1,a.2.2.2.2.2.2.2.2.2.1,a.2.2.2.2.2.2.2.2.2.2)
 else
 if (cop .lss n 0) then
 some (1,a.2.1,a.2.2.1,a.2.2.2.1,a.2.2.2.2.1,a.2.2.2.2.2.1,a.2.2.2.2.2.2.1,a.2.2.2.2.2.2.2.1,a.2.2.2.2.2.2.2.2.1,a.2.2.2.2.2.2.2.2.2.1,a.2.2.2.2.2.2.2.2.2.2)
 else
 if (cop .gtr n 7) then
 some (1,a.2.1,a.2.2.1,a.2.2.2.1,a.2.2.2.2.1,a.2.2.2.2.2.1,a.2.2.2.2.2.2.1,a.2.2.2.2.2.2.2.1,a.2.2.2.2.2.2.2.2.1,a.2.2.2.2.2.2.2.2.2.1,a.2.2.2.2.2.2.2.2.2.2)
 else
 if (cop .lss o 0) then
 some (1,a.2.1,a.2.2.1,a.2.2.2.1,a.2.2.2.2.1,a.2.2.2.2.2.1,a.2.2.2.2.2.2.1,a.2.2.2.2.2.2.2.1,a.2.2.2.2.2.2.2.2.1,a.2.2.2.2.2.2.2.2.2.1,a.2.2.2.2.2.2.2.2.2.2)
 else
 if (cop .geq o 32) then
 some (1,a.2.1,a.2.2.1,a.2.2.2.1,a.2.2.2.2.1,a.2.2.2.2.2.1,a.2.2.2.2.2.2.1,a.2.2.2.2.2.2.2.1,a.2.2.2.2.2.2.2.2.1,a.2.2.2.2.2.2.2.2.2.1,a.2.2.2.2.2.2.2.2.2.2)
 else
 if (cop .eql o k) then
 some (1,a.2.1,a.2.2.1,a.2.2.2.1,a.2.2.2.2.1,a.2.2.2.2.2.1,a.2.2.2.2.2.2.1,a.2.2.2.2.2.2.2.1,a.2.2.2.2.2.2.2.2.1,a.2.2.2.2.2.2.2.2.2.1,a.2.2.2.2.2.2.2.2.2.2)
 else
 (g41 a.2.1 a.2.2.1 a.2.2.2.1 a.2.2.2.2.1 a.2.2.2.2.2.1 a.2.2.2.2.2.2.1 a.2.2.2.2.2.2.2.1 a.2.2.2.2.2.2.2.2.1 a.2.2.2.2.2.2.2.2.2.1 a.2.2.2.2.2.2.2.2.2.2 k l).bind fun b=>
 if (!b.2.2.2.2.2.2.2.2.2.2.2.1) then
 some (2,(d4 (d8 b)).1,(d4 (d8 b)).2.1,(d2 (d4 (d8 b))).1,(d2 (d4 (d8 b))).2.1,(d16 b).1,(d16 b).2.1,(d2 (d16 b)).1,(d2 (d16 b)).2.1,(d4 (d16 b)).1,(d4 (d16 b)).2)
 else
 if (cop .eql f 2) then
 (g45 (d4 (d8 b)).1 (d4 (d8 b)).2.1 (d2 (d4 (d8 b))).1 (d2 (d4 (d8 b))).2.1 (d16 b).1 (d16 b).2.1 (d2 (d16 b)).1 (d2 (d16 b)).2.1 (d4 (d16 b)).1 (d4 (d16 b)).2 k q b.1 b.2.1 b.2.2.1 b.2.2.2.1 b.2.2.2.2.1 b.2.2.2.2.2.1 b.2.2.2.2.2.2.1 b.2.2.2.2.2.2.2.1 b.2.2.2.2.2.2.2.2.1 b.2.2.2.2.2.2.2.2.2.1 b.2.2.2.2.2.2.2.2.2.2.1 f l m o n r s t u p v w).bind fun e=>
 some (e.1,e.2.1,e.2.2.1,e.2.2.2.1,e.2.2.2.2.1,e.2.2.2.2.2.1,e.2.2.2.2.2.2.1,e.2.2.2.2.2.2.2.1,e.2.2.2.2.2.2.2.2.1,e.2.2.2.2.2.2.2.2.2.1,e.2.2.2.2.2.2.2.2.2.2)
 else
 if (cop .eql f 3) then
 (g46 (d4 (d8 b)).1 (d4 (d8 b)).2.1 (d2 (d4 (d8 b))).1 (d2 (d4 (d8 b))).2.1 (d16 b).1 (d16 b).2.1 (d2 (d16 b)).1 (d2 (d16 b)).2.1 (d4 (d16 b)).1 (d4 (d16 b)).2 k q b.1 b.2.1 b.2.2.1 b.2.2.2.1 b.2.2.2.2.1 b.2.2.2.2.2.1 b.2.2.2.2.2.2.1 b.2.2.2.2.2.2.2.1 b.2.2.2.2.2.2.2.2.1 b.2.2.2.2.2.2.2.2.2.1 b.2.2.2.2.2.2.2.2.2.2.1 f l m o n r s t u p v w).bind fun e=>
 some (e.1,e.2.1,e.2.2.1,e.2.2.2.1,e.2.2.2.2.1,e.2.2.2.2.2.1,e.2.2.2.2.2.2.1,e.2.2.2.2.2.2.2.1,e.2.2.2.2.2.2.2.2.1,e.2.2.2.2.2.2.2.2.2.1,e.2.2.2.2.2.2.2.2.2.2)
 else
 if (cop .eql f 4) then
 (g47 (d4 (d8 b)).1 (d4 (d8 b)).2.1 (d2 (d4 (d8 b))).1 (d2 (d4 (d8 b))).2.1 (d16 b).1 (d16 b).2.1 (d2 (d16 b)).1 (d2 (d16 b)).2.1 (d4 (d16 b)).1 (d4 (d16 b)).2 k q b.1 b.2.1 b.2.2.1 b.2.2.2.1 b.2.2.2.2.1 b.2.2.2.2.2.1 b.2.2.2.2.2.2.1 b.2.2.2.2.2.2.2.1 b.2.2.2.2.2.2.2.2.1 b.2.2.2.2.2.2.2.2.2.1 b.2.2.2.2.2.2.2.2.2.2.1 f l m o n r s t u p v w).bind fun e=>
 some (e.1,e.2.1,e.2.2.1,e.2.2.2.1,e.2.2.2.2.1,e.2.2.2.2.2.1,e.2.2.2.2.2.2.1,e.2.2.2.2.2.2.2.1,e.2.2.2.2.2.2.2.2.1,e.2.2.2.2.2.2.2.2.2.1,e.2.2.2.2.2.2.2.2.2.2)
 else
 if (cop .eql f 5) then
 (g48 (d16 b).2.1 b.1 b.2.1 b.2.2.1).bind fun e=>
 (g50 (d4 (d8 b)).1 (d4 (d8 b)).2.1 (d2 (d4 (d8 b))).1 (d2 (d4 (d8 b))).2.1 (d16 b).1 e.1 (d2 (d16 b)).1 (d2 (d16 b)).2.1 (d4 (d16 b)).1 (d4 (d16 b)).2).bind fun i=>
 some (0,i.1,i.2.1,i.2.2.1,i.2.2.2.1,i.2.2.2.2.1,i.2.2.2.2.2.1,i.2.2.2.2.2.2.1,i.2.2.2.2.2.2.2.1,i.2.2.2.2.2.2.2.2.1,i.2.2.2.2.2.2.2.2.2)
 else
 (g49 (d16 b).2.1 b.1 b.2.1 b.2.2.1).bind fun e=>
 (g50 (d4 (d8 b)).1 (d4 (d8 b)).2.1 (d2 (d4 (d8 b))).1 (d2 (d4 (d8 b))).2.1 (d16 b).1 e (d2 (d16 b)).1 (d2 (d16 b)).2.1 (d4 (d16 b)).1 (d4 (d16 b)).2).bind fun j=>
 some (0,j.1,j.2.1,j.2.2.1,j.2.2.2.1,j.2.2.2.2.1,j.2.2.2.2.2.1,j.2.2.2.2.2.2.1,j.2.2.2.2.2.2.2.1,j.2.2.2.2.2.2.2.2.1,j.2.2.2.2.2.2.2.2.2)
 else
 (g41 c.2.1 c.2.2.1 c.2.2.2.1 c.2.2.2.2.1 c.2.2.2.2.2.1 c.2.2.2.2.2.2.1 c.2.2.2.2.2.2.2.1 c.2.2.2.2.2.2.2.2.1 c.2.2.2.2.2.2.2.2.2.1 c.2.2.2.2.2.2.2.2.2.2 k l).bind fun a=>
 if (!a.2.2.2.2.2.2.2.2.2.2.2.1) then
 some (2,(d4 (d8 a)).1,(d4 (d8 a)).2.1,(d2 (d4 (d8 a))).1,(d2 (d4 (d8 a))).2.1,(d16 a).1,(d16 a).2.1,(d2 (d16 a)).1,(d2 (d16 a)).2.1,(d4 (d16 a)).1,(d4 (d16 a)).2)
 else
 if (cop .eql f 2) then
 (g45 (d4 (d8 a)).1 (d4 (d8 a)).2.1 (d2 (d4 (d8 a))).1 (d2 (d4 (d8 a))).2.1 (d16 a).1 (d16 a).2.1 (d2 (d16 a)).1 (d2 (d16 a)).2.1 (d4 (d16 a)).1 (d4 (d16 a)).2 k q a.1 a.2.1 a.2.2.1 a.2.2.2.1 a.2.2.2.2.1 a.2.2.2.2.2.1 a.2.2.2.2.2.2.1 a.2.2.2.2.2.2.2.1 a.2.2.2.2.2.2.2.2.1 a.2.2.2.2.2.2.2.2.2.1 a.2.2.2.2.2.2.2.2.2.2.1 f l m o n r s t u p v w).bind fun d=>
 some (d.1,d.2.1,d.2.2.1,d.2.2.2.1,d.2.2.2.2.1,d.2.2.2.2.2.1,d.2.2.2.2.2.2.1,d.2.2.2.2.2.2.2.1,d.2.2.2.2.2.2.2.2.1,d.2.2.2.2.2.2.2.2.2.1,d.2.2.2.2.2.2.2.2.2.2)
 else
 if (cop .eql f 3) then
 (g46 (d4 (d8 a)).1 (d4 (d8 a)).2.1 (d2 (d4 (d8 a))).1 (d2 (d4 (d8 a))).2.1 (d16 a).1 (d16 a).2.1 (d2 (d16 a)).1 (d2 (d16 a)).2.1 (d4 (d16 a)).1 (d4 (d16 a)).2 k q a.1 a.2.1 a.2.2.1 a.2.2.2.1 a.2.2.2.2.1 a.2.2.2.2.2.1 a.2.2.2.2.2.2.1 a.2.2.2.2.2.2.2.1 a.2.2.2.2.2.2.2.2.1 a.2.2.2.2.2.2.2.2.2.1 a.2.2.2.2.2.2.2.2.2.2.1 f l m o n r s t u p v w).bind fun d=>
 some (d.1,d.2.1,d.2.2.1,d.2.2.2.1,d.2.2.2.2.1,d.2.2.2.2.2.1,d.2.2.2.2.2.2.1,d.2.2.2.2.2.2.2.1,d.2.2.2.2.2.2.2.2.1,d.2.2.2.2.2.2.2.2.2.1,d.2.2.2.2.2.2.2.2.2.2)
 else
 if (cop .eql f 4) then
 (g47 (d4 (d8 a)).1 (d4 (d8 a)).2.1 (d2 (d4 (d8 a))).1 (d2 (d4 (d8 a))).2.1 (d16 a).1 (d16 a).2.1 (d2 (d16 a)).1 (d2 (d16 a)).2.1 (d4 (d16 a)).1 (d4 (d16 a)).2 k q a.1 a.2.1 a.2.2.1 a.2.2.2.1 a.2.2.2.2.1 a.2.2.2.2.2.1 a.2.2.2.2.2.2.1 a.2.2.2.2.2.2.2.1 a.2.2.2.2.2.2.2.2.1 a.2.2.2.2.2.2.2.2.2.1 a.2.2.2.2.2.2.2.2.2.2.1 f l m o n r s t u p v w).bind fun d=>
 some (d.1,d.2.1,d.2.2.1,d.2.2.2.1,d.2.2.2.2.1,d.2.2.2.2.2.1,d.2.2.2.2.2.2.1,d.2.2.2.2.2.2.2.1,d.2.2.2.2.2.2.2.2.1,d.2.2.2.2.2.2.2.2.2.1,d.2.2.2.2.2.2.2.2.2.2)
 else
 if (cop .eql f 5) then
 (g48 (d16 a).2.1 a.1 a.2.1 a.2.2.1).bind fun d=>
 (g50 (d4 (d8 a)).1 (d4 (d8 a)).2.1 (d2 (d4 (d8 a))).1 (d2 (d4 (d8 a))).2.1 (d16 a).1 d.1 (d2 (d16 a)).1 (d2 (d16 a)).2.1 (d4 (d16 a)).1 (d4 (d16 a)).2).bind fun g=>
 some (0,g.1,g.2.1,g.2.2.1,g.2.2.2.1,g.2.2.2.2.1,g.2.2.2.2.2.1,g.2.2.2.2.2.2.1,g.2.2.2.2.2.2.2.1,g.2.2.2.2.2.2.2.2.1,g.2.2.2.2.2.2.2.2.2)
 else
 (g49 (d16 a).2.1 a.1 a.2.1 a.2.2.1).bind fun d=>
 (g50 (d4 (d8 a)).1 (d4 (d8 a)).2.1 (d2 (d4 (d8 a))).1 (d2 (d4 (d8 a))).2.1 (d16 a).1 d (d2 (d16 a)).1 (d2 (d16 a)).2.1 (d4 (d16 a)).1 (d4 (d16 a)).2).bind fun h=>
 some (0,h.1,h.2.1,h.2.2.1,h.2.2.2.1,h.2.2.2.2.1,h.2.2.2.2.2.1,h.2.2.2.2.2.2.1,h.2.2.2.2.2.2.2.1,h.2.2.2.2.2.2.2.2.1,h.2.2.2.2.2.2.2.2.2)):=by kernel_rfl
noncomputable def F7:Fn:=⟨89,[8],[(6,[(0,.box hs7),(1,.c (.int .i64)),(2,.c (.int .i64)),(7,.box hs4),(8,.box hs11),(9,.c (.int .i64))])],[0],0,[],[],Tryz.f7,[.box hs7,.c (.int .i64),.c (.int .i64),.agg hs4],[.agg hs11],[(15,F15.S),(16,F16.S),(17,F17.S),(18,F18.S),(19,F19.S),(20,F20.S)]⟩
theorem ok7:F7.S.Ok Tryz.prog 7:=F7.ok Tryz.func7 (by kernel_rfl) ⟨ZpI,⟨Zqi,⟨Zqn,⟨Zqd,⟨Zqx,⟨ZqH,trivial⟩⟩⟩⟩⟩⟩
noncomputable def g7 (a:LL) (b c:Int) (d e f h j k m:LL) (n o p q r s t u v w x y z A:Int):Option (Qt9):=F7.S.g [.l a,.i b,.i c,.l d,.l e,.l f,.l h,.l j,.l k,.l m,.i n,.i o,.i p,.i q,.i r,.i s,.i t,.i u,.i v,.i w,.i x,.i y,.i z,.i A]
noncomputable def ZoH (k:Nat) (a:LL) (c d:Int) (e f g h j m n:LL) (o p q r s t u v w x y z A C D E G H J K L:Int) (M:Bool) (N O:Int):Option (Qt9):=F7.lp [0,1,1,1,1,1,0] 0 r0 k [.l a,.i c,.i d,.l e,.l f,.l g,.l h,.l j,.l m,.l n,.i o,.i p,.i q,.i r,.i s,.i t,.i u,.i v,.i w,.i x,.i y,.i z,.i A,.i C,.i D,.i E,.i G,.i H,.i J,.i K,.i L,.b M,.i N,.i O]
theorem Zln (k:Nat) (d:LL) (e f:Int) (g h i j l m c:LL) (n z b o p q r s t u v w x y C D E G H J K:Int) (L:Bool) (M A:Int):ZoH (k+1) d e f g h i j l m c n z b o p q r s t u v w x y C D E G H J K L M A =
 (if (cop .lss A (List.length c:Int)) then
 Zj c A [.int .i64,.int .i64] fun (a:Int×Int)=>
 if ((cop .eql a.1 n)&&((cop .eql a.2 z)&&true)) then
 some (1,0,0,0,0,0,0,false,0,d,e,f,g,h,i,j,l,m,c)
 else
 ZoH k d e f g h i j l m c n z b o p q r s t u v w x y C D E G H J K L M (iop .add .i64 A 1)
 else
 if (cop .eql b 1) then
 (g16 d e f g h i j l m c n z b o p q r s t u v w x y).bind fun a=>
 some (a.1,0,0,0,0,0,0,false,0,a.2.1,a.2.2.1,a.2.2.2.1,a.2.2.2.2.1,a.2.2.2.2.2.1,a.2.2.2.2.2.2.1,a.2.2.2.2.2.2.2.1,a.2.2.2.2.2.2.2.2.1,a.2.2.2.2.2.2.2.2.2.1,a.2.2.2.2.2.2.2.2.2.2)
 else
 if (cop .eql b 7) then
 (g17 d e f g h i j l m c n b o p q r s t u v w x y).bind fun a=>
 some (a.1,a.2.1,a.2.2.1,a.2.2.2.1,a.2.2.2.2.1,a.2.2.2.2.2.1,a.2.2.2.2.2.2.1,a.2.2.2.2.2.2.2.1,a.2.2.2.2.2.2.2.2.1,a.2.2.2.2.2.2.2.2.2.1,a.2.2.2.2.2.2.2.2.2.2.1,a.2.2.2.2.2.2.2.2.2.2.2.1,(d4 (d8 a)).1,(d4 (d8 a)).2.1,(d2 (d4 (d8 a))).1,(d2 (d4 (d8 a))).2.1,(d16 a).1,(d16 a).2.1,(d2 (d16 a)))
 else
 if (cop .eql b 8) then
 (g18 d e f g h i j l m c n b o p q r s t u v w x y).bind fun a=>
 some (a.1,0,0,0,0,0,0,false,0,a.2.1,a.2.2.1,a.2.2.2.1,a.2.2.2.2.1,a.2.2.2.2.2.1,a.2.2.2.2.2.2.1,a.2.2.2.2.2.2.2.1,a.2.2.2.2.2.2.2.2.1,a.2.2.2.2.2.2.2.2.2.1,a.2.2.2.2.2.2.2.2.2.2)
 else
 if (cop .eql b 9) then
 (g18 d e f g h i j l m c n b o p q r s t u v w x y).bind fun a=>
 some (a.1,0,0,0,0,0,0,false,0,a.2.1,a.2.2.1,a.2.2.2.1,a.2.2.2.2.1,a.2.2.2.2.2.1,a.2.2.2.2.2.2.1,a.2.2.2.2.2.2.2.1,a.2.2.2.2.2.2.2.2.1,a.2.2.2.2.2.2.2.2.2.1,a.2.2.2.2.2.2.2.2.2.2)
 else
 if (cop .eql b 10) then
 (g19 d e f g h i j l m c n b o p q r s t u v w x y).bind fun a=>
 some (a.1,a.2.1,a.2.2.1,a.2.2.2.1,a.2.2.2.2.1,a.2.2.2.2.2.1,a.2.2.2.2.2.2.1,a.2.2.2.2.2.2.2.1,a.2.2.2.2.2.2.2.2.1,a.2.2.2.2.2.2.2.2.2.1,a.2.2.2.2.2.2.2.2.2.2.1,a.2.2.2.2.2.2.2.2.2.2.2.1,(d4 (d8 a)).1,(d4 (d8 a)).2.1,(d2 (d4 (d8 a))).1,(d2 (d4 (d8 a))).2.1,(d16 a).1,(d16 a).2.1,(d2 (d16 a)))
 else
 (g20 d e f g h i j l m c n z b o p q r s t u v w x y).bind fun a=>
 some (a.1,0,0,0,0,0,0,false,0,a.2.1,a.2.2.1,a.2.2.2.1,a.2.2.2.2.1,a.2.2.2.2.2.1,a.2.2.2.2.2.2.1,a.2.2.2.2.2.2.2.1,a.2.2.2.2.2.2.2.2.1,a.2.2.2.2.2.2.2.2.2.1,a.2.2.2.2.2.2.2.2.2.2)):=by kernel_rfl
theorem Zpm (e:LL) (f g:Int) (h i j k l m n:LL) (d b c o p q r s t u v w x y:Int):g7 e f g h i j k l m n d b c o p q r s t u v w x y =
 ((g15 e f g h i j k l m n d).bind fun a=>
 if (!a.1) then
 some (16,0,0,0,0,0,0,false,0,a.2.1,a.2.2.1,a.2.2.2.1,a.2.2.2.2.1,a.2.2.2.2.2.1,a.2.2.2.2.2.2.1,a.2.2.2.2.2.2.2.1,a.2.2.2.2.2.2.2.2.1,a.2.2.2.2.2.2.2.2.2.1,a.2.2.2.2.2.2.2.2.2.2)
 else
 if (cop .lss b 1) then
 some (1,0,0,0,0,0,0,false,0,a.2.1,a.2.2.1,a.2.2.2.1,a.2.2.2.2.1,a.2.2.2.2.2.1,a.2.2.2.2.2.2.1,a.2.2.2.2.2.2.2.1,a.2.2.2.2.2.2.2.2.1,a.2.2.2.2.2.2.2.2.2.1,a.2.2.2.2.2.2.2.2.2.2)
 else
 if (cop .gtr b 1073741824) then
 some (1,0,0,0,0,0,0,false,0,a.2.1,a.2.2.1,a.2.2.2.1,a.2.2.2.2.1,a.2.2.2.2.2.1,a.2.2.2.2.2.2.1,a.2.2.2.2.2.2.2.1,a.2.2.2.2.2.2.2.2.1,a.2.2.2.2.2.2.2.2.2.1,a.2.2.2.2.2.2.2.2.2.2)
 else
 if (cop .lss c 1) then
 some (1,0,0,0,0,0,0,false,0,a.2.1,a.2.2.1,a.2.2.2.1,a.2.2.2.2.1,a.2.2.2.2.2.1,a.2.2.2.2.2.2.1,a.2.2.2.2.2.2.2.1,a.2.2.2.2.2.2.2.2.1,a.2.2.2.2.2.2.2.2.2.1,a.2.2.2.2.2.2.2.2.2.2)
 else
 if (cop .gtr c 10) then
 some (1,0,0,0,0,0,0,false,0,a.2.1,a.2.2.1,a.2.2.2.1,a.2.2.2.2.1,a.2.2.2.2.2.1,a.2.2.2.2.2.2.1,a.2.2.2.2.2.2.2.1,a.2.2.2.2.2.2.2.2.1,a.2.2.2.2.2.2.2.2.2.1,a.2.2.2.2.2.2.2.2.2.2)
 else
 ZoH ZZ a.2.1 a.2.2.1 a.2.2.2.1 a.2.2.2.2.1 a.2.2.2.2.2.1 a.2.2.2.2.2.2.1 a.2.2.2.2.2.2.2.1 a.2.2.2.2.2.2.2.2.1 a.2.2.2.2.2.2.2.2.2.1 a.2.2.2.2.2.2.2.2.2.2 d b c o p q r s t u v w x y 0 0 0 0 0 0 0 false 0 0):=by kernel_rfl
end Go.Proofs.YtapbmpfhogkkaaaGreat
