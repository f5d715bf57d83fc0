/- Functions of the program, as what they compute. -/
import Derived.Test.YtmjkdbpffdampaaGreatFZb
namespace Go.Proofs.YtmjkdbpffdampaaGreat
open Go Go.AM
set_option linter.unusedVariables false
set_option maxRecDepth 100000
noncomputable def F52:Fn:=⟨11,[3],[],[1],0,[],[],Tryz.f52,[.c (.int .i64),.box [.int .i64]],[.c (.bool)],[]⟩
theorem Zo4:F52.S.Ok Tryz.prog 52:=F52.ok Tryz.func52 (by kernel_rfl) trivial
noncomputable def g52 (a b:Int):Option (Bool×Int):=F52.S.g [.i a,.i b]
theorem Zlv (b a:Int):g52 b a =
 (if (cop .geq b 0) then
 some ((cop .lss b a),a)
 else
 some (false,a)):=by kernel_rfl
noncomputable def F28:Fn:=⟨119,[6],[],[],0,[],[],Tryz.f28,[.c (.int .i64),.c (.int .i64),.agg hs5],[.c (.bool)],[(52,F52.S)]⟩
theorem Zpb:F28.S.Ok Tryz.prog 28:=F28.ok Tryz.func28 (by kernel_rfl) ⟨Zo4,trivial⟩
noncomputable def g28 (a b c d e f h j k l m n o p:Int):Option (Bool):=F28.S.g [.i a,.i b,.i c,.i d,.i e,.i f,.i h,.i j,.i k,.i l,.i m,.i n,.i o,.i p]
theorem ZlG (k b c d e i j l h m n f o p:Int):g28 k b c d e i j l h m n f o p =
 (if (cop .geq j 0) then
 if (cop .eql c 1) then
 (g52 e b).bind fun a=>
 if a.1 then
 if (cop .geq h 6) then
 some ((cop .leq h 40))
 else
 some (false)
 else
 some (false)
 else
 if (cop .eql c 2) then
 (g52 d b).bind fun a=>
 if a.1 then
 if (cop .geq f 1) then
 if (cop .leq f 8) then
 if (cop .geq e 0) then
 some ((cop .leq e (iop .sub .i64 a.2 f)))
 else
 some (false)
 else
 some (false)
 else
 some (false)
 else
 some (false)
 else
 if (cop .eql c 3) then
 (g52 d b).bind fun a=>
 if a.1 then
 (g52 e a.2).bind fun g=>
 if g.1 then
 some ((cop .leq j 7))
 else
 some (false)
 else
 some (false)
 else
 if (cop .eql c 4) then
 (g52 d b).bind fun a=>
 if a.1 then
 (g52 e a.2).bind fun g=>
 if g.1 then
 if (cop .leq j 7) then
 if (cop .geq i 0) then
 if (cop .lss i 32) then
 some ((cop .neq i k))
 else
 some (false)
 else
 some (false)
 else
 some (false)
 else
 some (false)
 else
 some (false)
 else
 if (cop .eql c 5) then
 (g52 d b).bind fun a=>
 some (a.1)
 else
 if (cop .eql c 6) then
 (g52 d b).bind fun a=>
 some (a.1)
 else
 some (false)
 else
 if (cop .eql c 1) then
 (g52 e b).bind fun a=>
 if a.1 then
 if (cop .geq h 6) then
 some ((cop .leq h 40))
 else
 some (false)
 else
 some (false)
 else
 if (cop .eql c 2) then
 (g52 d b).bind fun a=>
 if a.1 then
 if (cop .geq f 1) then
 if (cop .leq f 8) then
 if (cop .geq e 0) then
 some ((cop .leq e (iop .sub .i64 a.2 f)))
 else
 some (false)
 else
 some (false)
 else
 some (false)
 else
 some (false)
 else
 if (cop .eql c 3) then
 (g52 d b).bind fun a=>
 if a.1 then
 (g52 e a.2).bind fun g=>
 if g.1 then
 some (false)
 else
 some (false)
 else
 some (false)
 else
 if (cop .eql c 4) then
 (g52 d b).bind fun a=>
 if a.1 then
 (g52 e a.2).bind fun g=>
 if g.1 then
 some (false)
 else
 some (false)
 else
 some (false)
 else
 if (cop .eql c 5) then
 (g52 d b).bind fun a=>
 some (a.1)
 else
 if (cop .eql c 6) then
 (g52 d b).bind fun a=>
 some (a.1)
 else
 some (false)):=by kernel_rfl
noncomputable def F30:Fn:=⟨12,[2],[],[],0,[],[],Tryz.f30,[.agg hs3],[.c (.bool)],[]⟩
theorem Zpe:F30.S.Ok Tryz.prog 30:=F30.ok Tryz.func30 (by kernel_rfl) trivial
noncomputable def g30 (a c d:Int) (e:LL) (f h j k m n:Int) (o:Bool) (p q r s:Int):Option (Bool):=F30.S.g [.i a,.i c,.i d,.l e,.i f,.i h,.i j,.i k,.i m,.i n,.b o,.i p,.i q,.i r,.i s]
theorem Zlj (e f g:Int) (h:LL) (i j k l m n:Int) (o:Bool) (a b c d:Int):g30 e f g h i j k l m n o a b c d =
 (if (cop .neq a 0) then
 some (true)
 else
 some ((!((cop .eql b 0)&&((cop .eql c 0)&&((cop .eql d 0)&&true)))))):=by kernel_rfl
noncomputable def F57:Fn:=⟨8,[2],[],[],0,[],[],Tryz.f57,[.agg hs3],[.c (.bool)],[]⟩
theorem Zom:F57.S.Ok Tryz.prog 57:=F57.ok Tryz.func57 (by kernel_rfl) trivial
noncomputable def g57 (a c d:Int) (e:LL) (f h j k m n:Int) (o:Bool) (p q r s:Int):Option (Bool):=F57.S.g [.i a,.i c,.i d,.l e,.i f,.i h,.i j,.i k,.i m,.i n,.b o,.i p,.i q,.i r,.i s]
theorem Zni (a b c:Int) (d:LL) (e f g h i j:Int) (k:Bool) (l m n o:Int):g57 a b c d e f g h i j k l m n o =
 (some (((cop .eql a 0)&&((cop .eql b 0)&&((cop .eql c 0)&&true))))):=by kernel_rfl
noncomputable def F81:Fn:=⟨6,[2],[],[],0,[],[],Tryz.f81,[.agg hs3],[.c (.bool)],[(57,F57.S)]⟩
theorem ZoU:F81.S.Ok Tryz.prog 81:=F81.ok Tryz.func81 (by kernel_rfl) ⟨Zom,trivial⟩
noncomputable def g81 (a c d:Int) (e:LL) (f h j k m n:Int) (o:Bool) (p q r s:Int):Option (Bool):=F81.S.g [.i a,.i c,.i d,.l e,.i f,.i h,.i j,.i k,.i m,.i n,.b o,.i p,.i q,.i r,.i s]
theorem ZlU (a b c:Int) (d:LL) (e f g h i j:Int) (k:Bool) (l m n o:Int):g81 a b c d e f g h i j k l m n o =
 ((g57 a b c d e f g h i j k l m n o).bind fun p=>
 some ((!p))):=by kernel_rfl
noncomputable def ZaQ:Fn:=⟨19,[4],[(2,[(0,.c (.slice 15)),(1,.clo 81 []),(7,.c (.int .i64)),(8,.c (.int .i64))])],[],0,[],[],Tryz.f101,[.c (.slice 15),.clo 81 []],[.c (.int .i64)],[(81,F81.S)]⟩
theorem Ziy:ZaQ.S.Ok Tryz.prog 101:=ZaQ.ok Tryz.func101 (by kernel_rfl) ⟨ZoU,trivial⟩
noncomputable def Zd5 (a:LL):Option (Int):=ZaQ.S.g [.l a]
noncomputable def YV (k:Nat) (a:LL) (b c:Int):Option (Int):=ZaQ.lp [0] 0 r0 k [.l a,.i b,.i c]
theorem Ww (k:Nat) (c:LL) (d b:Int):YV (k+1) c d b =
 (if (cop .lss b d) then
 Zq c b hs3 fun (a:Qt9)=>
 (g81 a.1 a.2.1 a.2.2.1 a.2.2.2.1 a.2.2.2.2.1 a.2.2.2.2.2.1 a.2.2.2.2.2.2.1 a.2.2.2.2.2.2.2.1 a.2.2.2.2.2.2.2.2.1 a.2.2.2.2.2.2.2.2.2.1 a.2.2.2.2.2.2.2.2.2.2.1 a.2.2.2.2.2.2.2.2.2.2.2.1 (d4 (d8 a)).1 (d4 (d8 a)).2.1 (d2 (d4 (d8 a)))).bind fun e=>
 if e then
 some (b)
 else
 YV k c d (iop .add .i64 b 1)
 else
 some ((-1))):=by kernel_rfl
theorem Zgd (a:LL):Zd5 a =
 (YV Z2 a (List.length a:Int) 0):=by kernel_rfl
noncomputable def Zfj:Fn:=⟨9,[4],[],[],0,[],[],Tryz.f80,[.c (.slice 15),.clo 81 []],[.c (.bool)],[(101,ZaQ.S)]⟩
theorem ZkS:Zfj.S.Ok Tryz.prog 80:=Zfj.ok Tryz.func80 (by kernel_rfl) ⟨Ziy,trivial⟩
noncomputable def ZhD (a:LL):Option (Bool):=Zfj.S.g [.l a]
theorem Zhq (a:LL):ZhD a =
 ((Zd5 a).bind fun b=>
 some ((cop .geq b 0))):=by kernel_rfl
noncomputable def F56:Fn:=⟨14,[6],[],[],0,[],[],Tryz.f56,[.c (.slice 15),.c (.int .i64),.c (.int .i64)],[.c (.bool)],[(80,Zfj.S)]⟩
theorem Zoy:F56.S.Ok Tryz.prog 56:=F56.ok Tryz.func56 (by kernel_rfl) ⟨ZkS,trivial⟩
noncomputable def g56 (a:LL) (b c:Int):Option (Bool):=F56.S.g [.l a,.i b,.i c]
theorem ZmB (c:LL) (a b:Int):g56 c a b =
 (Zn ((0:Int)≤a)<|
 Zn ((a:Int)≤(iop .add .i64 a b))<|
 Zn (((iop .add .i64 a b):Int)≤(List.length c:Int))<|
 (ZhD (List.drop (Int.toNat a) (List.take (Int.toNat (iop .add .i64 a b)) c))).bind fun d=>
 some (d)):=by kernel_rfl
noncomputable def F31:Fn:=⟨30,[6],[],[],0,[],[],Tryz.f31,[.c (.slice 15),.c (.slice 3),.agg hs5],[.c (.int .i64)],[(55,F55.S),(13,F13.S),(56,F56.S)]⟩
theorem ZoT:F31.S.Ok Tryz.prog 31:=F31.ok Tryz.func31 (by kernel_rfl) ⟨Znn,⟨ZnF,⟨Zoy,trivial⟩⟩⟩
noncomputable def g31 (a b:LL) (c d e f h j k m n o p q:Int):Option (Int):=F31.S.g [.l a,.l b,.i c,.i d,.i e,.i f,.i h,.i j,.i k,.i m,.i n,.i o,.i p,.i q]
theorem ZlS (c d:LL) (f g e h i j a k b l m n:Int):g31 c d f g e h i j a k b l m n =
 ((g55 b a).bind fun o=>
 if (!o) then
 some (6)
 else
 (g13 d b a).bind fun p=>
 if (!p.2) then
 some (11)
 else
 (g56 c e 1).bind fun q=>
 if q then
 some (3)
 else
 some (0)):=by kernel_rfl
noncomputable def F83:Fn:=⟨38,[4],[],[],0,[],[],Tryz.f83,[.c (.int .i64),.c (.int .i64)],[.c (.bool)],[]⟩
theorem Zon:F83.S.Ok Tryz.prog 83:=F83.ok Tryz.func83 (by kernel_rfl) trivial
noncomputable def g83 (a b:Int):Option (Bool):=F83.S.g [.i a,.i b]
theorem Zml (b a:Int):g83 b a =
 (if (cop .eql b 1) then
 if (cop .geq a 6) then
 some ((cop .leq a 40))
 else
 some (false)
 else
 if (cop .eql b 2) then
 if (cop .geq a 12) then
 some ((cop .leq a 40))
 else
 some (false)
 else
 if (cop .eql b 3) then
 some ((cop .eql a 12))
 else
 if (cop .eql b 4) then
 some ((cop .eql a 6))
 else
 if (cop .eql b 5) then
 some ((cop .eql a 10))
 else
 if (cop .eql b 6) then
 some ((cop .eql a 16))
 else
 some (false)):=by kernel_rfl
noncomputable def F34:Fn:=⟨8,[2],[],[],0,[],[],Tryz.f34,[.agg hs11],[.agg [.int .i64,.int .i64]],[]⟩
theorem ZoC:F34.S.Ok Tryz.prog 34:=F34.ok Tryz.func34 (by kernel_rfl) trivial
noncomputable def g34 (a c d e f h:Int) (j:Bool):Option (Int×Int):=F34.S.g [.i a,.i c,.i d,.i e,.i f,.i h,.b j]
theorem Zl1 (c a b d e f:Int) (g:Bool):g34 c a b d e f g =
 (some (a,b)):=by kernel_rfl
noncomputable def F84:Fn:=⟨22,[4],[],[],0,[],[],Tryz.f84,[.c (.int .i64),.c (.int .i64)],[.c (.bool)],[]⟩
theorem Zoo:F84.S.Ok Tryz.prog 84:=F84.ok Tryz.func84 (by kernel_rfl) trivial
noncomputable def g84 (a b:Int):Option (Bool):=F84.S.g [.i a,.i b]
theorem Zl5 (b a:Int):g84 b a =
 (if (cop .eql b 32) then
 if (cop .geq a 0) then
 some ((cop .leq a 1))
 else
 some (false)
 else
 if (cop .eql b 39) then
 if (cop .geq a 0) then
 some ((cop .leq a 2))
 else
 some (false)
 else
 some (false)):=by kernel_rfl
noncomputable def F82:Fn:=⟨55,[2],[],[],0,[],[],Tryz.f82,[.agg hs11],[.c (.bool)],[(83,F83.S),(34,F34.S),(55,F55.S),(84,F84.S)]⟩
theorem Zpv:F82.S.Ok Tryz.prog 82:=F82.ok Tryz.func82 (by kernel_rfl) ⟨Zon,⟨ZoC,⟨Znn,⟨Zoo,trivial⟩⟩⟩⟩
noncomputable def g82 (a c d e f h:Int) (j:Bool):Option (Bool):=F82.S.g [.i a,.i c,.i d,.i e,.i f,.i h,.b j]
theorem Znf (a g f b c d:Int) (e:Bool):g82 a g f b c d e =
 ((g83 a f).bind fun i=>
 if (!i) then
 some (false)
 else
 (g34 a g f b c d e).bind fun h=>
 (g55 h.1 h.2).bind fun j=>
 if (!j) then
 some (false)
 else
 if (cop .lss b 0) then
 some (false)
 else
 if (cop .gtr b 7) then
 some (false)
 else
 if (cop .eql a 3) then
 (g84 c d).bind fun k=>
 if (!k) then
 some (false)
 else
 if (!e) then
 some (true)
 else
 if (cop .eql a 1) then
 some (true)
 else
 some ((cop .eql a 2))
 else
 if (cop .neq c 0) then
 some (false)
 else
 if (cop .neq d 0) then
 some (false)
 else
 if (!e) then
 some (true)
 else
 if (cop .eql a 1) then
 some (true)
 else
 some ((cop .eql a 2))):=by kernel_rfl
noncomputable def F58:Fn:=⟨118,[14,15],[(20,[(1,.c (.int .i64)),(2,.c (.int .i64)),(3,.c (.int .i64)),(4,.c (.int .i64)),(5,.c (.int .i64)),(7,.box hs11),(16,.c (.int .i64)),(17,.c (.own false 52)),(92,.c (.int .i64)),(93,.c (.int .i64))])],[],0,[],[],Tryz.f58,[.agg hs11,.c (.int .i64),.c (.int .i64),.c (.int .i64),.c (.int .i64),.c (.int .i64),.c (.int .i64)],[.c (.own false 52),.c (.int .i64)],[(82,F82.S),(83,F83.S),(84,F84.S)]⟩
theorem ZoX:F58.S.Ok Tryz.prog 58:=F58.ok Tryz.func58 (by kernel_rfl) ⟨Zpv,⟨Zon,⟨Zoo,trivial⟩⟩⟩
noncomputable def g58 (a c d e f h:Int) (j:Bool) (k l m n o p:Int):Option (LL×Int):=F58.S.g [.i a,.i c,.i d,.i e,.i f,.i h,.b j,.i k,.i l,.i m,.i n,.i o,.i p]
noncomputable def JO (k:Nat) (a c d e f g h j m n o:Int) (p:Bool) (q:Int) (r:LL) (s t:Int):Option (LL×Int):=F58.lp [0,1,1,1,0,1,0,0,1,1,1,1,0,0,1,2,1,0,1,0,1,0,0] 0 r0 k [.i a,.i c,.i d,.i e,.i f,.i g,.i h,.i j,.i m,.i n,.i o,.b p,.i q,.l r,.i s,.i t]
theorem Ze1 (k:Nat) (b c d e f n g o h p q:Int) (i:Bool) (j:Int) (l:LL) (m a:Int):JO (k+1) b c d e f n g o h p q i j l m a =
 (if (cop .lss a m) then
 Zn (Z0 l (E0++[[AV.val (.int .i64 b),AV.val (.int .i64 (iop .add .i64 (iop .add .i64 g f) (iop .mul .i64 a j))),AV.val (.int .i64 c),AV.val (.int .i64 h),AV.val (.int .i64 e),AV.val (.int .i64 d),AV.val (.bool i)]]) 56)<|
 JO k b c d e f n g o h p q i j (l++(E0++[[AV.val (.int .i64 b),AV.val (.int .i64 (iop .add .i64 (iop .add .i64 g f) (iop .mul .i64 a j))),AV.val (.int .i64 c),AV.val (.int .i64 h),AV.val (.int .i64 e),AV.val (.int .i64 d),AV.val (.bool i)]])) m (iop .add .i64 a 1)
 else
 some (l,0)):=by kernel_rfl
theorem ZlM (g i c h j k:Int) (f:Bool) (b a l m d e:Int):g58 g i c h j k f b a l m d e =
 ((g82 g i c h j k f).bind fun n=>
 if (!n) then
 some (E0,5)
 else
 if (cop .neq g 1) then
 some (E0,5)
 else
 if (cop .eql (iop .and .i64 h 2) 0) then
 some (E0,8)
 else
 (g83 b a).bind fun o=>
 if (!o) then
 some (E0,1)
 else
 if (cop .eql b 3) then
 (g84 m l).bind fun p=>
 if (!p) then
 some (E0,1)
 else
 if (cop .lss e 1) then
 some (E0,1)
 else
 if (cop .gtr e 8) then
 some (E0,1)
 else
 if (cop .lss d 0) then
 some (E0,1)
 else
 if f then
 if (cop .neq b 1) then
 if (cop .neq b 2) then
 some (E0,5)
 else
 Zn ((0:Int)≤a)<|
 Zn (((iop .shl .i64 1 a):Int)≠0)<|
 if (cop .neq (iop .rem .i64 d (iop .shl .i64 1 a)) 0) then
 some (E0,6)
 else
 Zn ((0:Int)≤c)<|
 if (cop .gtr d (iop .sub .i64 (iop .shl .i64 1 c) (iop .mul .i64 e (iop .shl .i64 1 a)))) then
 some (E0,6)
 else
 if (cop .eql b 1) then
 if (cop .geq a c) then
 some (E0,6)
 else
 if (cop .neq b 3) then
 JO Z2 b a 0 0 d g i c h j k f (iop .shl .i64 1 a) E0 e 0
 else
 JO Z2 b a l m d g i c h j k f (iop .shl .i64 1 a) E0 e 0
 else
 if (cop .neq b 3) then
 JO Z2 b a 0 0 d g i c h j k f (iop .shl .i64 1 a) E0 e 0
 else
 JO Z2 b a l m d g i c h j k f (iop .shl .i64 1 a) E0 e 0
 else
 Zn ((0:Int)≤a)<|
 Zn (((iop .shl .i64 1 a):Int)≠0)<|
 if (cop .neq (iop .rem .i64 d (iop .shl .i64 1 a)) 0) then
 some (E0,6)
 else
 Zn ((0:Int)≤c)<|
 if (cop .gtr d (iop .sub .i64 (iop .shl .i64 1 c) (iop .mul .i64 e (iop .shl .i64 1 a)))) then
 some (E0,6)
 else
 if (cop .eql b 1) then
 if (cop .geq a c) then
 some (E0,6)
 else
 if (cop .neq b 3) then
 JO Z2 b a 0 0 d g i c h j k f (iop .shl .i64 1 a) E0 e 0
 else
 JO Z2 b a l m d g i c h j k f (iop .shl .i64 1 a) E0 e 0
 else
 if (cop .neq b 3) then
 JO Z2 b a 0 0 d g i c h j k f (iop .shl .i64 1 a) E0 e 0
 else
 JO Z2 b a l m d g i c h j k f (iop .shl .i64 1 a) E0 e 0
 else
 Zn ((0:Int)≤a)<|
 Zn (((iop .shl .i64 1 a):Int)≠0)<|
 if (cop .neq (iop .rem .i64 d (iop .shl .i64 1 a)) 0) then
 some (E0,6)
 else
 Zn ((0:Int)≤c)<|
 if (cop .gtr d (iop .sub .i64 (iop .shl .i64 1 c) (iop .mul .i64 e (iop .shl .i64 1 a)))) then
 some (E0,6)
 else
 if (cop .eql b 1) then
 if (cop .geq a c) then
 some (E0,6)
 else
 if (cop .neq b 3) then
 JO Z2 b a 0 0 d g i c h j k f (iop .shl .i64 1 a) E0 e 0
 else
 JO Z2 b a l m d g i c h j k f (iop .shl .i64 1 a) E0 e 0
 else
 if (cop .neq b 3) then
 JO Z2 b a 0 0 d g i c h j k f (iop .shl .i64 1 a) E0 e 0
 else
 JO Z2 b a l m d g i c h j k f (iop .shl .i64 1 a) E0 e 0
 else
 if (cop .lss e 1) then
 some (E0,1)
 else
 if (cop .gtr e 8) then
 some (E0,1)
 else
 if (cop .lss d 0) then
 some (E0,1)
 else
 if f then
 if (cop .neq b 1) then
 if (cop .neq b 2) then
 some (E0,5)
 else
 Zn ((0:Int)≤a)<|
 Zn (((iop .shl .i64 1 a):Int)≠0)<|
 if (cop .neq (iop .rem .i64 d (iop .shl .i64 1 a)) 0) then
 some (E0,6)
 else
 Zn ((0:Int)≤c)<|
 if (cop .gtr d (iop .sub .i64 (iop .shl .i64 1 c) (iop .mul .i64 e (iop .shl .i64 1 a)))) then
 some (E0,6)
 else
 if (cop .eql b 1) then
 if (cop .geq a c) then
 some (E0,6)
 else
 if (cop .neq b 3) then
 JO Z2 b a 0 0 d g i c h j k f (iop .shl .i64 1 a) E0 e 0
 else
 JO Z2 b a l m d g i c h j k f (iop .shl .i64 1 a) E0 e 0
 else
 if (cop .neq b 3) then
 JO Z2 b a 0 0 d g i c h j k f (iop .shl .i64 1 a) E0 e 0
 else
 JO Z2 b a l m d g i c h j k f (iop .shl .i64 1 a) E0 e 0
 else
 Zn ((0:Int)≤a)<|
 Zn (((iop .shl .i64 1 a):Int)≠0)<|
 if (cop .neq (iop .rem .i64 d (iop .shl .i64 1 a)) 0) then
 some (E0,6)
 else
 Zn ((0:Int)≤c)<|
 if (cop .gtr d (iop .sub .i64 (iop .shl .i64 1 c) (iop .mul .i64 e (iop .shl .i64 1 a)))) then
 some (E0,6)
 else
 if (cop .eql b 1) then
 if (cop .geq a c) then
 some (E0,6)
 else
 if (cop .neq b 3) then
 JO Z2 b a 0 0 d g i c h j k f (iop .shl .i64 1 a) E0 e 0
 else
 JO Z2 b a l m d g i c h j k f (iop .shl .i64 1 a) E0 e 0
 else
 if (cop .neq b 3) then
 JO Z2 b a 0 0 d g i c h j k f (iop .shl .i64 1 a) E0 e 0
 else
 JO Z2 b a l m d g i c h j k f (iop .shl .i64 1 a) E0 e 0
 else
 Zn ((0:Int)≤a)<|
 Zn (((iop .shl .i64 1 a):Int)≠0)<|
 if (cop .neq (iop .rem .i64 d (iop .shl .i64 1 a)) 0) then
 some (E0,6)
 else
 Zn ((0:Int)≤c)<|
 if (cop .gtr d (iop .sub .i64 (iop .shl .i64 1 c) (iop .mul .i64 e (iop .shl .i64 1 a)))) then
 some (E0,6)
 else
 if (cop .eql b 1) then
 if (cop .geq a c) then
 some (E0,6)
 else
 if (cop .neq b 3) then
 JO Z2 b a 0 0 d g i c h j k f (iop .shl .i64 1 a) E0 e 0
 else
 JO Z2 b a l m d g i c h j k f (iop .shl .i64 1 a) E0 e 0
 else
 if (cop .neq b 3) then
 JO Z2 b a 0 0 d g i c h j k f (iop .shl .i64 1 a) E0 e 0
 else
 JO Z2 b a l m d g i c h j k f (iop .shl .i64 1 a) E0 e 0):=by kernel_rfl
noncomputable def F85:Fn:=⟨19,[4],[(2,[(0,.c (.slice 1)),(1,.c (.int .i64)),(7,.c (.int .i64)),(8,.c (.int .i64))])],[],0,[],[],Tryz.f85,[.c (.slice 1),.c (.int .i64)],[.c (.int .i64)],[]⟩
theorem ZoJ:F85.S.Ok Tryz.prog 85:=F85.ok Tryz.func85 (by kernel_rfl) trivial
noncomputable def g85 (a:LL) (b:Int):Option (Int):=F85.S.g [.l a,.i b]
noncomputable def Zgq (k:Nat) (a:LL) (b c d:Int):Option (Int):=F85.lp [0] 0 r0 k [.l a,.i b,.i c,.i d]
theorem ZeE (k:Nat) (b:LL) (c d a:Int):Zgq (k+1) b c d a =
 (if (cop .lss a d) then
 Zq b a [.int .i64] fun (e:Int)=>
 if (cop .eql c e) then
 some (a)
 else
 Zgq k b c d (iop .add .i64 a 1)
 else
 some ((-1))):=by kernel_rfl
theorem ZmD (a:LL) (b:Int):g85 a b =
 (Zgq Z2 a b (List.length a:Int) 0):=by kernel_rfl
noncomputable def F59:Fn:=⟨9,[4],[],[],0,[],[],Tryz.f59,[.c (.slice 1),.c (.int .i64)],[.c (.bool)],[(85,F85.S)]⟩
theorem Zo9:F59.S.Ok Tryz.prog 59:=F59.ok Tryz.func59 (by kernel_rfl) ⟨ZoJ,trivial⟩
noncomputable def g59 (a:LL) (b:Int):Option (Bool):=F59.S.g [.l a,.i b]
theorem ZmH (a:LL) (b:Int):g59 a b =
 ((g85 a b).bind fun c=>
 some ((cop .geq c 0))):=by kernel_rfl
noncomputable def F32:Fn:=⟨99,[8],[],[],0,[],[],Tryz.f32,[.c (.int .i64),.c (.slice 15),.c (.slice 1),.agg hs5],[.c (.int .i64)],[(57,F57.S),(58,F58.S),(56,F56.S),(59,F59.S)]⟩
theorem Zpl:F32.S.Ok Tryz.prog 32:=F32.ok Tryz.func32 (by kernel_rfl) ⟨Zom,⟨ZoX,⟨Zoy,⟨Zo9,trivial⟩⟩⟩⟩
noncomputable def g32 (a:Int) (b c:LL) (d e f h j k m n o p q r:Int):Option (Int):=F32.S.g [.i a,.l b,.l c,.i d,.i e,.i f,.i h,.i j,.i k,.i m,.i n,.i o,.i p,.i q,.i r]
theorem ZmR (i:Int) (d j:LL) (e f g k p l m n o h q r:Int):g32 i d j e f g k p l m n o h q r =
 (Zq d f hs3 fun (a:Qt9)=>
 Zq d f hs3 fun (b:Qt9)=>
 (g57 b.1 b.2.1 b.2.2.1 b.2.2.2.1 b.2.2.2.2.1 b.2.2.2.2.2.1 b.2.2.2.2.2.2.1 b.2.2.2.2.2.2.2.1 b.2.2.2.2.2.2.2.2.1 b.2.2.2.2.2.2.2.2.2.1 b.2.2.2.2.2.2.2.2.2.2.1 b.2.2.2.2.2.2.2.2.2.2.2.1 (d4 (d8 b)).1 (d4 (d8 b)).2.1 (d2 (d4 (d8 b)))).bind fun s=>
 if s then
 some (2)
 else
 if (cop .eql e 2) then
 (g58 a.2.2.2.2.1 a.2.2.2.2.2.1 a.2.2.2.2.2.2.1 a.2.2.2.2.2.2.2.1 a.2.2.2.2.2.2.2.2.1 a.2.2.2.2.2.2.2.2.2.1 a.2.2.2.2.2.2.2.2.2.2.1 l m n i o h).bind fun c=>
 if (cop .neq c.2 0) then
 some (c.2)
 else
 (g56 d g h).bind fun t=>
 if t then
 some (3)
 else
 if (cop .geq (List.length a.2.2.2.1:Int) 8) then
 some (9)
 else
 some (0)
 else
 if (cop .eql e 3) then
 (g56 d g 1).bind fun c=>
 if c then
 some (3)
 else
 if (cop .geq (List.length a.2.2.2.1:Int) 8) then
 some (9)
 else
 some (0)
 else
 if (cop .eql e 4) then
 if (cop .eql a.2.2.2.2.1 3) then
 some (5)
 else
 if (cop .eql a.2.2.2.2.1 5) then
 some (5)
 else
 if (cop .eql a.2.2.2.2.1 6) then
 some (5)
 else
 if (cop .eql (iop .and .i64 a.2.2.2.2.2.2.2.1 4) 0) then
 some (8)
 else
 if (cop .geq (List.length a.2.2.2.1:Int) 8) then
 some (9)
 else
 (g59 j k).bind fun c=>
 if (!c) then
 some (10)
 else
 if (cop .geq (List.length a.2.2.2.1:Int) 8) then
 some (9)
 else
 some (0)
 else
 some (0)):=by kernel_rfl
noncomputable def F60:Fn:=⟨8,[2],[],[],0,[],[],Tryz.f60,[.c (.slice 3)],[.c (.own false 50)],[]⟩
theorem Zpg:F60.S.Ok Tryz.prog 60:=F60.ok Tryz.func60 (by kernel_rfl) trivial
noncomputable def g60 (a:LL):Option (LL):=F60.S.g [.l a]
theorem Zmt (a:LL):g60 a =
 (ZkP a fun b=>
 if b then
 some (E0)
 else
 Zn (Z0 E0 a 24)<|
 some ((E0++a))):=by kernel_rfl
noncomputable def F33:Fn:=⟨8,[2],[],[],0,[],[],Tryz.f33,[.agg hs6],[.agg hs6],[(60,F60.S)]⟩
theorem Zpz:F33.S.Ok Tryz.prog 33:=F33.ok Tryz.func33 (by kernel_rfl) ⟨Zpg,trivial⟩
noncomputable def g33 (a c d:Int) (e:LL) (f h j k m n:Int) (o:Bool):Option (Qt15):=F33.S.g [.i a,.i c,.i d,.l e,.i f,.i h,.i j,.i k,.i m,.i n,.b o]
theorem Znj (a b c:Int) (d:LL) (e f g h i j:Int) (k:Bool):g33 a b c d e f g h i j k =
 ((g60 d).bind fun l=>
 some (a,b,c,l,e,f,g,h,i,j,k)):=by kernel_rfl
end Go.Proofs.YtmjkdbpffdampaaGreat
