/- Functions of the program, as what they compute. -/
import Derived.Test.YtmjkdbpffdampaaFAb
namespace Go.Proofs.Ytmjkdbpffdampaa
open Go Go.AM
set_option linter.unusedVariables false
set_option maxRecDepth 100000
noncomputable def F53:Fn:=⟨11,[3],[],[1],0,[],[],Try.f53,[.c (.int .i64),.box [.int .i64]],[.c (.bool)],[]⟩
theorem Zpm:F53.S.Ok Try.prog 53:=F53.ok Try.func53 (by kernel_rfl) trivial
noncomputable def g53 (a b:Int):Option (Bool×Int):=F53.S.g [.i a,.i b]
theorem Zlv (b a:Int):g53 b a =
 (if (cop .geq b 0) then
 some ((cop .lss b a),a)
 else
 some (false,a)):=by kernel_rfl
noncomputable def F32:Fn:=⟨119,[6],[],[],0,[],[],Try.f32,[.c (.int .i64),.c (.int .i64),.agg hs5],[.c (.bool)],[(53,F53.S)]⟩
theorem ZoQ:F32.S.Ok Try.prog 32:=F32.ok Try.func32 (by kernel_rfl) ⟨Zpm,trivial⟩
noncomputable def g32 (a b c d e f h j k l m n o p:Int):Option (Bool):=F32.S.g [.i a,.i b,.i c,.i d,.i e,.i f,.i h,.i j,.i k,.i l,.i m,.i n,.i o,.i p]
theorem Znn (k b c d e i j l h m n f o p:Int):g32 k b c d e i j l h m n f o p =
 (if (cop .geq j 0) then
 if (cop .eql c 1) then
 (g53 e b).bind fun a=>
 if a.1 then
 if (cop .geq h 6) then
 some ((cop .leq h 40))
 else
 some (false)
 else
 some (false)
 else
 if (cop .eql c 2) then
 (g53 d b).bind fun a=>
 if a.1 then
 if (cop .geq f 1) then
 if (cop .leq f 8) then
 if (cop .geq e 0) then
 some ((cop .leq e (iop .sub .i64 a.2 f)))
 else
 some (false)
 else
 some (false)
 else
 some (false)
 else
 some (false)
 else
 if (cop .eql c 3) then
 (g53 d b).bind fun a=>
 if a.1 then
 (g53 e a.2).bind fun g=>
 if g.1 then
 some ((cop .leq j 7))
 else
 some (false)
 else
 some (false)
 else
 if (cop .eql c 4) then
 (g53 d b).bind fun a=>
 if a.1 then
 (g53 e a.2).bind fun g=>
 if g.1 then
 if (cop .leq j 7) then
 if (cop .geq i 0) then
 if (cop .lss i 32) then
 some ((cop .neq i k))
 else
 some (false)
 else
 some (false)
 else
 some (false)
 else
 some (false)
 else
 some (false)
 else
 if (cop .eql c 5) then
 (g53 d b).bind fun a=>
 some (a.1)
 else
 if (cop .eql c 6) then
 (g53 d b).bind fun a=>
 some (a.1)
 else
 some (false)
 else
 if (cop .eql c 1) then
 (g53 e b).bind fun a=>
 if a.1 then
 if (cop .geq h 6) then
 some ((cop .leq h 40))
 else
 some (false)
 else
 some (false)
 else
 if (cop .eql c 2) then
 (g53 d b).bind fun a=>
 if a.1 then
 if (cop .geq f 1) then
 if (cop .leq f 8) then
 if (cop .geq e 0) then
 some ((cop .leq e (iop .sub .i64 a.2 f)))
 else
 some (false)
 else
 some (false)
 else
 some (false)
 else
 some (false)
 else
 if (cop .eql c 3) then
 (g53 d b).bind fun a=>
 if a.1 then
 (g53 e a.2).bind fun g=>
 if g.1 then
 some (false)
 else
 some (false)
 else
 some (false)
 else
 if (cop .eql c 4) then
 (g53 d b).bind fun a=>
 if a.1 then
 (g53 e a.2).bind fun g=>
 if g.1 then
 some (false)
 else
 some (false)
 else
 some (false)
 else
 if (cop .eql c 5) then
 (g53 d b).bind fun a=>
 some (a.1)
 else
 if (cop .eql c 6) then
 (g53 d b).bind fun a=>
 some (a.1)
 else
 some (false)):=by kernel_rfl
noncomputable def F34:Fn:=⟨12,[2],[],[],0,[],[],Try.f34,[.agg hs3],[.c (.bool)],[]⟩
theorem Zpj:F34.S.Ok Try.prog 34:=F34.ok Try.func34 (by kernel_rfl) trivial
noncomputable def g34 (a c d:Int) (e:LL) (f h j k m n:Int) (o:Bool) (p q r s:Int):Option (Bool):=F34.S.g [.i a,.i c,.i d,.l e,.i f,.i h,.i j,.i k,.i m,.i n,.b o,.i p,.i q,.i r,.i s]
theorem ZlJ (e f g:Int) (h:LL) (i j k l m n:Int) (o:Bool) (a b c d:Int):g34 e f g h i j k l m n o a b c d =
 (if (cop .neq a 0) then
 some (true)
 else
 some ((!((cop .eql b 0)&&((cop .eql c 0)&&((cop .eql d 0)&&true)))))):=by kernel_rfl
noncomputable def F58:Fn:=⟨8,[2],[],[],0,[],[],Try.f58,[.agg hs3],[.c (.bool)],[]⟩
theorem Zou:F58.S.Ok Try.prog 58:=F58.ok Try.func58 (by kernel_rfl) trivial
noncomputable def g58 (a c d:Int) (e:LL) (f h j k m n:Int) (o:Bool) (p q r s:Int):Option (Bool):=F58.S.g [.i a,.i c,.i d,.l e,.i f,.i h,.i j,.i k,.i m,.i n,.b o,.i p,.i q,.i r,.i s]
theorem ZmE (a b c:Int) (d:LL) (e f g h i j:Int) (k:Bool) (l m n o:Int):g58 a b c d e f g h i j k l m n o =
 (some (((cop .eql a 0)&&((cop .eql b 0)&&((cop .eql c 0)&&true))))):=by kernel_rfl
noncomputable def F78:Fn:=⟨6,[2],[],[],0,[],[],Try.f78,[.agg hs3],[.c (.bool)],[(58,F58.S)]⟩
theorem ZoT:F78.S.Ok Try.prog 78:=F78.ok Try.func78 (by kernel_rfl) ⟨Zou,trivial⟩
noncomputable def g78 (a c d:Int) (e:LL) (f h j k m n:Int) (o:Bool) (p q r s:Int):Option (Bool):=F78.S.g [.i a,.i c,.i d,.l e,.i f,.i h,.i j,.i k,.i m,.i n,.b o,.i p,.i q,.i r,.i s]
theorem ZlB (a b c:Int) (d:LL) (e f g h i j:Int) (k:Bool) (l m n o:Int):g78 a b c d e f g h i j k l m n o =
 ((g58 a b c d e f g h i j k l m n o).bind fun p=>
 some ((!p))):=by kernel_rfl
noncomputable def ZcN:Fn:=⟨19,[4],[(2,[(0,.c (.slice 15)),(1,.clo 78 []),(7,.c (.int .i64)),(8,.c (.int .i64))])],[],0,[],[],Try.f97,[.c (.slice 15),.clo 78 []],[.c (.int .i64)],[(78,F78.S)]⟩
theorem Zk6:ZcN.S.Ok Try.prog 97:=ZcN.ok Try.func97 (by kernel_rfl) ⟨ZoT,trivial⟩
noncomputable def Zh8 (a:LL):Option (Int):=ZcN.S.g [.l a]
noncomputable def KS (k:Nat) (a:LL) (b c:Int):Option (Int):=ZcN.lp [0] 0 r0 k [.l a,.i b,.i c]
theorem Zad (k:Nat) (c:LL) (d b:Int):KS (k+1) c d b =
 (if (cop .lss b d) then
 Zq c b hs3 fun (a:Qt9)=>
 (g78 a.1 a.2.1 a.2.2.1 a.2.2.2.1 a.2.2.2.2.1 a.2.2.2.2.2.1 a.2.2.2.2.2.2.1 a.2.2.2.2.2.2.2.1 a.2.2.2.2.2.2.2.2.1 a.2.2.2.2.2.2.2.2.2.1 a.2.2.2.2.2.2.2.2.2.2.1 a.2.2.2.2.2.2.2.2.2.2.2.1 (d4 (d8 a)).1 (d4 (d8 a)).2.1 (d2 (d4 (d8 a)))).bind fun e=>
 if e then
 some (b)
 else
 KS k c d (iop .add .i64 b 1)
 else
 some ((-1))):=by kernel_rfl
theorem ZhR (a:LL):Zh8 a =
 (KS Z6 a (List.length a:Int) 0):=by kernel_rfl
noncomputable def ZfC:Fn:=⟨9,[4],[],[],0,[],[],Try.f77,[.c (.slice 15),.clo 78 []],[.c (.bool)],[(97,ZcN.S)]⟩
theorem Zlf:ZfC.S.Ok Try.prog 77:=ZfC.ok Try.func77 (by kernel_rfl) ⟨Zk6,trivial⟩
noncomputable def Zg3 (a:LL):Option (Bool):=ZfC.S.g [.l a]
theorem ZhN (a:LL):Zg3 a =
 ((Zh8 a).bind fun b=>
 some ((cop .geq b 0))):=by kernel_rfl
noncomputable def F57:Fn:=⟨14,[6],[],[],0,[],[],Try.f57,[.c (.slice 15),.c (.int .i64),.c (.int .i64)],[.c (.bool)],[(77,ZfC.S)]⟩
theorem ZoJ:F57.S.Ok Try.prog 57:=F57.ok Try.func57 (by kernel_rfl) ⟨Zlf,trivial⟩
noncomputable def g57 (a:LL) (b c:Int):Option (Bool):=F57.S.g [.l a,.i b,.i c]
theorem Zl1 (c:LL) (a b:Int):g57 c a b =
 (Zj ((0:Int)≤a)<|
 Zj ((a:Int)≤(iop .add .i64 a b))<|
 Zj (((iop .add .i64 a b):Int)≤(List.length c:Int))<|
 (Zg3 (List.drop (Int.toNat a) (List.take (Int.toNat (iop .add .i64 a b)) c))).bind fun d=>
 some (d)):=by kernel_rfl
noncomputable def F35:Fn:=⟨30,[6],[],[],0,[],[],Try.f35,[.c (.slice 15),.c (.slice 3),.agg hs5],[.c (.int .i64)],[(56,F56.S),(22,F22.S),(57,F57.S)]⟩
theorem Zpa:F35.S.Ok Try.prog 35:=F35.ok Try.func35 (by kernel_rfl) ⟨Zns,⟨Zod,⟨ZoJ,trivial⟩⟩⟩
noncomputable def g35 (a b:LL) (c d e f h j k m n o p q:Int):Option (Int):=F35.S.g [.l a,.l b,.i c,.i d,.i e,.i f,.i h,.i j,.i k,.i m,.i n,.i o,.i p,.i q]
theorem Zm0 (c d:LL) (f g e h i j a k b l m n:Int):g35 c d f g e h i j a k b l m n =
 ((g56 b a).bind fun o=>
 if (!o) then
 some (6)
 else
 (g22 d b a).bind fun p=>
 if (!p.2) then
 some (11)
 else
 (g57 c e 1).bind fun q=>
 if q then
 some (3)
 else
 some (0)):=by kernel_rfl
noncomputable def F80:Fn:=⟨38,[4],[],[],0,[],[],Try.f80,[.c (.int .i64),.c (.int .i64)],[.c (.bool)],[]⟩
theorem Zoz:F80.S.Ok Try.prog 80:=F80.ok Try.func80 (by kernel_rfl) trivial
noncomputable def g80 (a b:Int):Option (Bool):=F80.S.g [.i a,.i b]
theorem Znd (b a:Int):g80 b a =
 (if (cop .eql b 1) then
 if (cop .geq a 6) then
 some ((cop .leq a 40))
 else
 some (false)
 else
 if (cop .eql b 2) then
 if (cop .geq a 12) then
 some ((cop .leq a 40))
 else
 some (false)
 else
 if (cop .eql b 3) then
 some ((cop .eql a 12))
 else
 if (cop .eql b 4) then
 some ((cop .eql a 6))
 else
 if (cop .eql b 5) then
 some ((cop .eql a 10))
 else
 if (cop .eql b 6) then
 some ((cop .eql a 16))
 else
 some (false)):=by kernel_rfl
noncomputable def F38:Fn:=⟨8,[2],[],[],0,[],[],Try.f38,[.agg hs11],[.agg [.int .i64,.int .i64]],[]⟩
theorem Zow:F38.S.Ok Try.prog 38:=F38.ok Try.func38 (by kernel_rfl) trivial
noncomputable def g38 (a c d e f h:Int) (j:Bool):Option (Int×Int):=F38.S.g [.i a,.i c,.i d,.i e,.i f,.i h,.b j]
theorem Zmg (c a b d e f:Int) (g:Bool):g38 c a b d e f g =
 (some (a,b)):=by kernel_rfl
noncomputable def F81:Fn:=⟨22,[4],[],[],0,[],[],Try.f81,[.c (.int .i64),.c (.int .i64)],[.c (.bool)],[]⟩
theorem ZoH:F81.S.Ok Try.prog 81:=F81.ok Try.func81 (by kernel_rfl) trivial
noncomputable def g81 (a b:Int):Option (Bool):=F81.S.g [.i a,.i b]
theorem ZlL (b a:Int):g81 b a =
 (if (cop .eql b 32) then
 if (cop .geq a 0) then
 some ((cop .leq a 1))
 else
 some (false)
 else
 if (cop .eql b 39) then
 if (cop .geq a 0) then
 some ((cop .leq a 2))
 else
 some (false)
 else
 some (false)):=by kernel_rfl
noncomputable def F79:Fn:=⟨55,[2],[],[],0,[],[],Try.f79,[.agg hs11],[.c (.bool)],[(80,F80.S),(38,F38.S),(56,F56.S),(81,F81.S)]⟩
theorem Zpf:F79.S.Ok Try.prog 79:=F79.ok Try.func79 (by kernel_rfl) ⟨Zoz,⟨Zow,⟨Zns,⟨ZoH,trivial⟩⟩⟩⟩
noncomputable def g79 (a c d e f h:Int) (j:Bool):Option (Bool):=F79.S.g [.i a,.i c,.i d,.i e,.i f,.i h,.b j]
theorem ZlD (a g f b c d:Int) (e:Bool):g79 a g f b c d e =
 ((g80 a f).bind fun i=>
 if (!i) then
 some (false)
 else
 (g38 a g f b c d e).bind fun h=>
 (g56 h.1 h.2).bind fun j=>
 if (!j) then
 some (false)
 else
 if (cop .lss b 0) then
 some (false)
 else
 if (cop .gtr b 7) then
 some (false)
 else
 if (cop .eql a 3) then
 (g81 c d).bind fun k=>
 if (!k) then
 some (false)
 else
 if (!e) then
 some (true)
 else
 if (cop .eql a 1) then
 some (true)
 else
 some ((cop .eql a 2))
 else
 if (cop .neq c 0) then
 some (false)
 else
 if (cop .neq d 0) then
 some (false)
 else
 if (!e) then
 some (true)
 else
 if (cop .eql a 1) then
 some (true)
 else
 some ((cop .eql a 2))):=by kernel_rfl
noncomputable def F59:Fn:=⟨118,[14,15],[(20,[(1,.c (.int .i64)),(2,.c (.int .i64)),(3,.c (.int .i64)),(4,.c (.int .i64)),(5,.c (.int .i64)),(7,.box hs11),(16,.c (.int .i64)),(17,.c (.own false 50)),(92,.c (.int .i64)),(93,.c (.int .i64))])],[],0,[],[],Try.f59,[.agg hs11,.c (.int .i64),.c (.int .i64),.c (.int .i64),.c (.int .i64),.c (.int .i64),.c (.int .i64)],[.c (.own false 50),.c (.int .i64)],[(79,F79.S),(80,F80.S),(81,F81.S)]⟩
theorem Zpy:F59.S.Ok Try.prog 59:=F59.ok Try.func59 (by kernel_rfl) ⟨Zpf,⟨Zoz,⟨ZoH,trivial⟩⟩⟩
noncomputable def g59 (a c d e f h:Int) (j:Bool) (k l m n o p:Int):Option (LL×Int):=F59.S.g [.i a,.i c,.i d,.i e,.i f,.i h,.b j,.i k,.i l,.i m,.i n,.i o,.i p]
noncomputable def JP (k:Nat) (a c d e f g h j m n o:Int) (p:Bool) (q:Int) (r:LL) (s t:Int):Option (LL×Int):=F59.lp [0,1,1,1,0,1,0,0,1,1,1,1,0,0,1,2,1,0,1,0,1,0,0] 0 r0 k [.i a,.i c,.i d,.i e,.i f,.i g,.i h,.i j,.i m,.i n,.i o,.b p,.i q,.l r,.i s,.i t]
theorem ZeV (k:Nat) (b c d e f n g o h p q:Int) (i:Bool) (j:Int) (l:LL) (m a:Int):JP (k+1) b c d e f n g o h p q i j l m a =
 (if (cop .lss a m) then
 Zj (Jr l (E0++[[AV.val (.int .i64 b),AV.val (.int .i64 (iop .add .i64 (iop .add .i64 g f) (iop .mul .i64 a j))),AV.val (.int .i64 c),AV.val (.int .i64 h),AV.val (.int .i64 e),AV.val (.int .i64 d),AV.val (.bool i)]]) 56)<|
 JP k b c d e f n g o h p q i j (l++(E0++[[AV.val (.int .i64 b),AV.val (.int .i64 (iop .add .i64 (iop .add .i64 g f) (iop .mul .i64 a j))),AV.val (.int .i64 c),AV.val (.int .i64 h),AV.val (.int .i64 e),AV.val (.int .i64 d),AV.val (.bool i)]])) m (iop .add .i64 a 1)
 else
 some (l,0)):=by kernel_rfl
theorem Zlw (g i c h j k:Int) (f:Bool) (b a l m d e:Int):g59 g i c h j k f b a l m d e =
 ((g79 g i c h j k f).bind fun n=>
 if (!n) then
 some (E0,5)
 else
 if (cop .neq g 1) then
 some (E0,5)
 else
 if (cop .eql (iop .and .i64 h 2) 0) then
 some (E0,8)
 else
 (g80 b a).bind fun o=>
 if (!o) then
 some (E0,1)
 else
 if (cop .eql b 3) then
 (g81 m l).bind fun p=>
 if (!p) then
 some (E0,1)
 else
 if (cop .lss e 1) then
 some (E0,1)
 else
 if (cop .gtr e 8) then
 some (E0,1)
 else
 if (cop .lss d 0) then
 some (E0,1)
 else
 if f then
 if (cop .neq b 1) then
 if (cop .neq b 2) then
 some (E0,5)
 else
 Zj ((0:Int)≤a)<|
 Zj (((iop .shl .i64 1 a):Int)≠0)<|
 if (cop .neq (iop .rem .i64 d (iop .shl .i64 1 a)) 0) then
 some (E0,6)
 else
 Zj ((0:Int)≤c)<|
 if (cop .gtr d (iop .sub .i64 (iop .shl .i64 1 c) (iop .mul .i64 e (iop .shl .i64 1 a)))) then
 some (E0,6)
 else
 if (cop .eql b 1) then
 if (cop .geq a c) then
 some (E0,6)
 else
 if (cop .neq b 3) then
 JP Z6 b a 0 0 d g i c h j k f (iop .shl .i64 1 a) E0 e 0
 else
 JP Z6 b a l m d g i c h j k f (iop .shl .i64 1 a) E0 e 0
 else
 if (cop .neq b 3) then
 JP Z6 b a 0 0 d g i c h j k f (iop .shl .i64 1 a) E0 e 0
 else
 JP Z6 b a l m d g i c h j k f (iop .shl .i64 1 a) E0 e 0
 else
 Zj ((0:Int)≤a)<|
 Zj (((iop .shl .i64 1 a):Int)≠0)<|
 if (cop .neq (iop .rem .i64 d (iop .shl .i64 1 a)) 0) then
 some (E0,6)
 else
 Zj ((0:Int)≤c)<|
 if (cop .gtr d (iop .sub .i64 (iop .shl .i64 1 c) (iop .mul .i64 e (iop .shl .i64 1 a)))) then
 some (E0,6)
 else
 if (cop .eql b 1) then
 if (cop .geq a c) then
 some (E0,6)
 else
 if (cop .neq b 3) then
 JP Z6 b a 0 0 d g i c h j k f (iop .shl .i64 1 a) E0 e 0
 else
 JP Z6 b a l m d g i c h j k f (iop .shl .i64 1 a) E0 e 0
 else
 if (cop .neq b 3) then
 JP Z6 b a 0 0 d g i c h j k f (iop .shl .i64 1 a) E0 e 0
 else
 JP Z6 b a l m d g i c h j k f (iop .shl .i64 1 a) E0 e 0
 else
 Zj ((0:Int)≤a)<|
 Zj (((iop .shl .i64 1 a):Int)≠0)<|
 if (cop .neq (iop .rem .i64 d (iop .shl .i64 1 a)) 0) then
 some (E0,6)
 else
 Zj ((0:Int)≤c)<|
 if (cop .gtr d (iop .sub .i64 (iop .shl .i64 1 c) (iop .mul .i64 e (iop .shl .i64 1 a)))) then
 some (E0,6)
 else
 if (cop .eql b 1) then
 if (cop .geq a c) then
 some (E0,6)
 else
 if (cop .neq b 3) then
 JP Z6 b a 0 0 d g i c h j k f (iop .shl .i64 1 a) E0 e 0
 else
 JP Z6 b a l m d g i c h j k f (iop .shl .i64 1 a) E0 e 0
 else
 if (cop .neq b 3) then
 JP Z6 b a 0 0 d g i c h j k f (iop .shl .i64 1 a) E0 e 0
 else
 JP Z6 b a l m d g i c h j k f (iop .shl .i64 1 a) E0 e 0
 else
 if (cop .lss e 1) then
 some (E0,1)
 else
 if (cop .gtr e 8) then
 some (E0,1)
 else
 if (cop .lss d 0) then
 some (E0,1)
 else
 if f then
 if (cop .neq b 1) then
 if (cop .neq b 2) then
 some (E0,5)
 else
 Zj ((0:Int)≤a)<|
 Zj (((iop .shl .i64 1 a):Int)≠0)<|
 if (cop .neq (iop .rem .i64 d (iop .shl .i64 1 a)) 0) then
 some (E0,6)
 else
 Zj ((0:Int)≤c)<|
 if (cop .gtr d (iop .sub .i64 (iop .shl .i64 1 c) (iop .mul .i64 e (iop .shl .i64 1 a)))) then
 some (E0,6)
 else
 if (cop .eql b 1) then
 if (cop .geq a c) then
 some (E0,6)
 else
 if (cop .neq b 3) then
 JP Z6 b a 0 0 d g i c h j k f (iop .shl .i64 1 a) E0 e 0
 else
 JP Z6 b a l m d g i c h j k f (iop .shl .i64 1 a) E0 e 0
 else
 if (cop .neq b 3) then
 JP Z6 b a 0 0 d g i c h j k f (iop .shl .i64 1 a) E0 e 0
 else
 JP Z6 b a l m d g i c h j k f (iop .shl .i64 1 a) E0 e 0
 else
 Zj ((0:Int)≤a)<|
 Zj (((iop .shl .i64 1 a):Int)≠0)<|
 if (cop .neq (iop .rem .i64 d (iop .shl .i64 1 a)) 0) then
 some (E0,6)
 else
 Zj ((0:Int)≤c)<|
 if (cop .gtr d (iop .sub .i64 (iop .shl .i64 1 c) (iop .mul .i64 e (iop .shl .i64 1 a)))) then
 some (E0,6)
 else
 if (cop .eql b 1) then
 if (cop .geq a c) then
 some (E0,6)
 else
 if (cop .neq b 3) then
 JP Z6 b a 0 0 d g i c h j k f (iop .shl .i64 1 a) E0 e 0
 else
 JP Z6 b a l m d g i c h j k f (iop .shl .i64 1 a) E0 e 0
 else
 if (cop .neq b 3) then
 JP Z6 b a 0 0 d g i c h j k f (iop .shl .i64 1 a) E0 e 0
 else
 JP Z6 b a l m d g i c h j k f (iop .shl .i64 1 a) E0 e 0
 else
 Zj ((0:Int)≤a)<|
 Zj (((iop .shl .i64 1 a):Int)≠0)<|
 if (cop .neq (iop .rem .i64 d (iop .shl .i64 1 a)) 0) then
 some (E0,6)
 else
 Zj ((0:Int)≤c)<|
 if (cop .gtr d (iop .sub .i64 (iop .shl .i64 1 c) (iop .mul .i64 e (iop .shl .i64 1 a)))) then
 some (E0,6)
 else
 if (cop .eql b 1) then
 if (cop .geq a c) then
 some (E0,6)
 else
 if (cop .neq b 3) then
 JP Z6 b a 0 0 d g i c h j k f (iop .shl .i64 1 a) E0 e 0
 else
 JP Z6 b a l m d g i c h j k f (iop .shl .i64 1 a) E0 e 0
 else
 if (cop .neq b 3) then
 JP Z6 b a 0 0 d g i c h j k f (iop .shl .i64 1 a) E0 e 0
 else
 JP Z6 b a l m d g i c h j k f (iop .shl .i64 1 a) E0 e 0):=by kernel_rfl
noncomputable def F82:Fn:=⟨19,[4],[(2,[(0,.c (.slice 1)),(1,.c (.int .i64)),(7,.c (.int .i64)),(8,.c (.int .i64))])],[],0,[],[],Try.f82,[.c (.slice 1),.c (.int .i64)],[.c (.int .i64)],[]⟩
theorem ZpE:F82.S.Ok Try.prog 82:=F82.ok Try.func82 (by kernel_rfl) trivial
noncomputable def g82 (a:LL) (b:Int):Option (Int):=F82.S.g [.l a,.i b]
noncomputable def ZfT (k:Nat) (a:LL) (b c d:Int):Option (Int):=F82.lp [0] 0 r0 k [.l a,.i b,.i c,.i d]
theorem Zfo (k:Nat) (b:LL) (c d a:Int):ZfT (k+1) b c d a =
 (if (cop .lss a d) then
 Zq b a [.int .i64] fun (e:Int)=>
 if (cop .eql c e) then
 some (a)
 else
 ZfT k b c d (iop .add .i64 a 1)
 else
 some ((-1))):=by kernel_rfl
theorem Zmi (a:LL) (b:Int):g82 a b =
 (ZfT Z6 a b (List.length a:Int) 0):=by kernel_rfl
noncomputable def F60:Fn:=⟨9,[4],[],[],0,[],[],Try.f60,[.c (.slice 1),.c (.int .i64)],[.c (.bool)],[(82,F82.S)]⟩
theorem ZpF:F60.S.Ok Try.prog 60:=F60.ok Try.func60 (by kernel_rfl) ⟨ZpE,trivial⟩
noncomputable def g60 (a:LL) (b:Int):Option (Bool):=F60.S.g [.l a,.i b]
theorem Zlt (a:LL) (b:Int):g60 a b =
 ((g82 a b).bind fun c=>
 some ((cop .geq c 0))):=by kernel_rfl
noncomputable def F36:Fn:=⟨99,[8],[],[],0,[],[],Try.f36,[.c (.int .i64),.c (.slice 15),.c (.slice 1),.agg hs5],[.c (.int .i64)],[(58,F58.S),(59,F59.S),(57,F57.S),(60,F60.S)]⟩
theorem Zpt:F36.S.Ok Try.prog 36:=F36.ok Try.func36 (by kernel_rfl) ⟨Zou,⟨Zpy,⟨ZoJ,⟨ZpF,trivial⟩⟩⟩⟩
noncomputable def g36 (a:Int) (b c:LL) (d e f h j k m n o p q r:Int):Option (Int):=F36.S.g [.i a,.l b,.l c,.i d,.i e,.i f,.i h,.i j,.i k,.i m,.i n,.i o,.i p,.i q,.i r]
theorem Zlz (i:Int) (d j:LL) (e f g k p l m n o h q r:Int):g36 i d j e f g k p l m n o h q r =
 (Zq d f hs3 fun (a:Qt9)=>
 Zq d f hs3 fun (b:Qt9)=>
 (g58 b.1 b.2.1 b.2.2.1 b.2.2.2.1 b.2.2.2.2.1 b.2.2.2.2.2.1 b.2.2.2.2.2.2.1 b.2.2.2.2.2.2.2.1 b.2.2.2.2.2.2.2.2.1 b.2.2.2.2.2.2.2.2.2.1 b.2.2.2.2.2.2.2.2.2.2.1 b.2.2.2.2.2.2.2.2.2.2.2.1 (d4 (d8 b)).1 (d4 (d8 b)).2.1 (d2 (d4 (d8 b)))).bind fun s=>
 if s then
 some (2)
 else
 if (cop .eql e 2) then
 (g59 a.2.2.2.2.1 a.2.2.2.2.2.1 a.2.2.2.2.2.2.1 a.2.2.2.2.2.2.2.1 a.2.2.2.2.2.2.2.2.1 a.2.2.2.2.2.2.2.2.2.1 a.2.2.2.2.2.2.2.2.2.2.1 l m n i o h).bind fun c=>
 if (cop .neq c.2 0) then
 some (c.2)
 else
 (g57 d g h).bind fun t=>
 if t then
 some (3)
 else
 if (cop .geq (List.length a.2.2.2.1:Int) 8) then
 some (9)
 else
 some (0)
 else
 if (cop .eql e 3) then
 (g57 d g 1).bind fun c=>
 if c then
 some (3)
 else
 if (cop .geq (List.length a.2.2.2.1:Int) 8) then
 some (9)
 else
 some (0)
 else
 if (cop .eql e 4) then
 if (cop .eql a.2.2.2.2.1 3) then
 some (5)
 else
 if (cop .eql a.2.2.2.2.1 5) then
 some (5)
 else
 if (cop .eql a.2.2.2.2.1 6) then
 some (5)
 else
 if (cop .eql (iop .and .i64 a.2.2.2.2.2.2.2.1 4) 0) then
 some (8)
 else
 if (cop .geq (List.length a.2.2.2.1:Int) 8) then
 some (9)
 else
 (g60 j k).bind fun c=>
 if (!c) then
 some (10)
 else
 if (cop .geq (List.length a.2.2.2.1:Int) 8) then
 some (9)
 else
 some (0)
 else
 some (0)):=by kernel_rfl
noncomputable def F61:Fn:=⟨8,[2],[],[],0,[],[],Try.f61,[.c (.slice 3)],[.c (.own false 48)],[]⟩
theorem ZpB:F61.S.Ok Try.prog 61:=F61.ok Try.func61 (by kernel_rfl) trivial
noncomputable def g61 (a:LL):Option (LL):=F61.S.g [.l a]
theorem ZlY (a:LL):g61 a =
 (Zkn a fun b=>
 if b then
 some (E0)
 else
 Zj (Jr E0 a 24)<|
 some ((E0++a))):=by kernel_rfl
noncomputable def F37:Fn:=⟨8,[2],[],[],0,[],[],Try.f37,[.agg hs6],[.agg hs6],[(61,F61.S)]⟩
theorem Zo0:F37.S.Ok Try.prog 37:=F37.ok Try.func37 (by kernel_rfl) ⟨ZpB,trivial⟩
noncomputable def g37 (a c d:Int) (e:LL) (f h j k m n:Int) (o:Bool):Option (Qt16):=F37.S.g [.i a,.i c,.i d,.l e,.i f,.i h,.i j,.i k,.i m,.i n,.b o]
theorem Zm2 (a b c:Int) (d:LL) (e f g h i j:Int) (k:Bool):g37 a b c d e f g h i j k =
 ((g61 d).bind fun l=>
 some (a,b,c,l,e,f,g,h,i,j,k)):=by kernel_rfl
end Go.Proofs.Ytmjkdbpffdampaa
