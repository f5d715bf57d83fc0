/- Functions of the program, as what they compute. -/
import Derived.Test.YtapbmpfhogkkaaaGreatFMb
namespace Go.Proofs.YtapbmpfhogkkaaaGreat
open Go Go.AM
set_option linter.unusedVariables false
set_option maxRecDepth 100000
noncomputable def F52:Fn:=⟨11,[3],[],[1],0,[],[],Tryz.f52,[.c (.int .i64),.box [.int .i64]],[.c (.bool)],[]⟩
theorem ZqJ:F52.S.Ok Tryz.prog 52:=F52.ok Tryz.func52 (by kernel_rfl) trivial
noncomputable def g52 (a b:Int):Option (Bool×Int):=F52.S.g [.i a,.i b]
theorem Zoe (b a:Int):g52 b a =
 (if (cop .geq b 0) then
 some ((cop .lss b a),a)
 else
 some (false,a)):=by kernel_rfl
noncomputable def F23:Fn:=⟨119,[6],[],[],0,[],[],Tryz.f23,[.c (.int .i64),.c (.int .i64),.agg hs4],[.c (.bool)],[(52,F52.S)]⟩
theorem ZqZ:F23.S.Ok Tryz.prog 23:=F23.ok Tryz.func23 (by kernel_rfl) ⟨ZqJ,trivial⟩
noncomputable def g23 (a b c d e f h j k l m n o p:Int):Option (Bool):=F23.S.g [.i a,.i b,.i c,.i d,.i e,.i f,.i h,.i j,.i k,.i l,.i m,.i n,.i o,.i p]
theorem ZmS (k b c d e i j l h m n f o p:Int):g23 k b c d e i j l h m n f o p =
 (if (cop .geq j 0) then
 if (cop .eql c 1) then
 (g52 e b).bind fun a=>
 if a.1 then
 if (cop .geq h 6) then
 some ((cop .leq h 40))
 else
 some (false)
 else
 some (false)
 else
 if (cop .eql c 2) then
 (g52 d b).bind fun a=>
 if a.1 then
 if (cop .geq f 1) then
 if (cop .leq f 8) then
 if (cop .geq e 0) then
 some ((cop .leq e (iop .sub .i64 a.2 f)))
 else
 some (false)
 else
 some (false)
 else
 some (false)
 else
 some (false)
 else
 if (cop .eql c 3) then
 (g52 d b).bind fun a=>
 if a.1 then
 (g52 e a.2).bind fun g=>
 if g.1 then
 some ((cop .leq j 7))
 else
 some (false)
 else
 some (false)
 else
 if (cop .eql c 4) then
 (g52 d b).bind fun a=>
 if a.1 then
 (g52 e a.2).bind fun g=>
 if g.1 then
 if (cop .leq j 7) then
 if (cop .geq i 0) then
 if (cop .lss i 32) then
 some ((cop .neq i k))
 else
 some (false)
 else
 some (false)
 else
 some (false)
 else
 some (false)
 else
 some (false)
 else
 if (cop .eql c 5) then
 (g52 d b).bind fun a=>
 some (a.1)
 else
 if (cop .eql c 6) then
 (g52 d b).bind fun a=>
 some (a.1)
 else
 some (false)
 else
 if (cop .eql c 1) then
 (g52 e b).bind fun a=>
 if a.1 then
 if (cop .geq h 6) then
 some ((cop .leq h 40))
 else
 some (false)
 else
 some (false)
 else
 if (cop .eql c 2) then
 (g52 d b).bind fun a=>
 if a.1 then
 if (cop .geq f 1) then
 if (cop .leq f 8) then
 if (cop .geq e 0) then
 some ((cop .leq e (iop .sub .i64 a.2 f)))
 else
 some (false)
 else
 some (false)
 else
 some (false)
 else
 some (false)
 else
 if (cop .eql c 3) then
 (g52 d b).bind fun a=>
 if a.1 then
 (g52 e a.2).bind fun g=>
 if g.1 then
 some (false)
 else
 some (false)
 else
 some (false)
 else
 if (cop .eql c 4) then
 (g52 d b).bind fun a=>
 if a.1 then
 (g52 e a.2).bind fun g=>
 if g.1 then
 some (false)
 else
 some (false)
 else
 some (false)
 else
 if (cop .eql c 5) then
 (g52 d b).bind fun a=>
 some (a.1)
 else
 if (cop .eql c 6) then
 (g52 d b).bind fun a=>
 some (a.1)
 else
 some (false)):=by kernel_rfl
noncomputable def F25:Fn:=⟨12,[2],[],[],0,[],[],Tryz.f25,[.agg hs2],[.c (.bool)],[]⟩
theorem Zqg:F25.S.Ok Tryz.prog 25:=F25.ok Tryz.func25 (by kernel_rfl) trivial
noncomputable def g25 (a c d:Int) (e:LL) (f h j k m n:Int) (o:Bool) (p q r s:Int):Option (Bool):=F25.S.g [.i a,.i c,.i d,.l e,.i f,.i h,.i j,.i k,.i m,.i n,.b o,.i p,.i q,.i r,.i s]
theorem ZmJ (e f g:Int) (h:LL) (i j k l m n:Int) (o:Bool) (a b c d:Int):g25 e f g h i j k l m n o a b c d =
 (if (cop .neq a 0) then
 some (true)
 else
 some ((!((cop .eql b 0)&&((cop .eql c 0)&&((cop .eql d 0)&&true)))))):=by kernel_rfl
noncomputable def F57:Fn:=⟨8,[2],[],[],0,[],[],Tryz.f57,[.agg hs2],[.c (.bool)],[]⟩
theorem ZpY:F57.S.Ok Tryz.prog 57:=F57.ok Tryz.func57 (by kernel_rfl) trivial
noncomputable def g57 (a c d:Int) (e:LL) (f h j k m n:Int) (o:Bool) (p q r s:Int):Option (Bool):=F57.S.g [.i a,.i c,.i d,.l e,.i f,.i h,.i j,.i k,.i m,.i n,.b o,.i p,.i q,.i r,.i s]
theorem Zmv (a b c:Int) (d:LL) (e f g h i j:Int) (k:Bool) (l m n o:Int):g57 a b c d e f g h i j k l m n o =
 (some (((cop .eql a 0)&&((cop .eql b 0)&&((cop .eql c 0)&&true))))):=by kernel_rfl
noncomputable def F89:Fn:=⟨6,[2],[],[],0,[],[],Tryz.f89,[.agg hs2],[.c (.bool)],[(57,F57.S)]⟩
theorem Zqm:F89.S.Ok Tryz.prog 89:=F89.ok Tryz.func89 (by kernel_rfl) ⟨ZpY,trivial⟩
noncomputable def g89 (a c d:Int) (e:LL) (f h j k m n:Int) (o:Bool) (p q r s:Int):Option (Bool):=F89.S.g [.i a,.i c,.i d,.l e,.i f,.i h,.i j,.i k,.i m,.i n,.b o,.i p,.i q,.i r,.i s]
theorem Zmn (a b c:Int) (d:LL) (e f g h i j:Int) (k:Bool) (l m n o:Int):g89 a b c d e f g h i j k l m n o =
 ((g57 a b c d e f g h i j k l m n o).bind fun p=>
 some ((!p))):=by kernel_rfl
noncomputable def Zah:Fn:=⟨19,[4],[(2,[(0,.c (.slice 15)),(1,.clo 89 []),(7,.c (.int .i64)),(8,.c (.int .i64))])],[],0,[],[],Tryz.f112,[.c (.slice 15),.clo 89 []],[.c (.int .i64)],[(89,F89.S)]⟩
theorem Zj3:Zah.S.Ok Tryz.prog 112:=Zah.ok Tryz.func112 (by kernel_rfl) ⟨Zqm,trivial⟩
noncomputable def Zel (a:LL):Option (Int):=Zah.S.g [.l a]
noncomputable def Y0 (k:Nat) (a:LL) (b c:Int):Option (Int):=Zah.lp [0] 0 r0 k [.l a,.i b,.i c]
theorem Wz (k:Nat) (c:LL) (d b:Int):Y0 (k+1) c d b =
 (if (cop .lss b d) then
 Zj c b hs2 fun (a:Qt12)=>
 (g89 a.1 a.2.1 a.2.2.1 a.2.2.2.1 a.2.2.2.2.1 a.2.2.2.2.2.1 a.2.2.2.2.2.2.1 a.2.2.2.2.2.2.2.1 a.2.2.2.2.2.2.2.2.1 a.2.2.2.2.2.2.2.2.2.1 a.2.2.2.2.2.2.2.2.2.2.1 a.2.2.2.2.2.2.2.2.2.2.2.1 (d4 (d8 a)).1 (d4 (d8 a)).2.1 (d2 (d4 (d8 a)))).bind fun e=>
 if e then
 some (b)
 else
 Y0 k c d (iop .add .i64 b 1)
 else
 some ((-1))):=by kernel_rfl
theorem Zf2 (a:LL):Zel a =
 (Y0 ZZ a (List.length a:Int) 0):=by kernel_rfl
noncomputable def Zfo:Fn:=⟨9,[4],[],[],0,[],[],Tryz.f88,[.c (.slice 15),.clo 89 []],[.c (.bool)],[(112,Zah.S)]⟩
theorem Zly:Zfo.S.Ok Tryz.prog 88:=Zfo.ok Tryz.func88 (by kernel_rfl) ⟨Zj3,trivial⟩
noncomputable def Ziv (a:LL):Option (Bool):=Zfo.S.g [.l a]
theorem Zip (a:LL):Ziv a =
 ((Zel a).bind fun b=>
 some ((cop .geq b 0))):=by kernel_rfl
noncomputable def F56:Fn:=⟨14,[6],[],[],0,[],[],Tryz.f56,[.c (.slice 15),.c (.int .i64),.c (.int .i64)],[.c (.bool)],[(88,Zfo.S)]⟩
theorem ZpV:F56.S.Ok Tryz.prog 56:=F56.ok Tryz.func56 (by kernel_rfl) ⟨Zly,trivial⟩
noncomputable def g56 (a:LL) (b c:Int):Option (Bool):=F56.S.g [.l a,.i b,.i c]
theorem ZmO (c:LL) (a b:Int):g56 c a b =
 (Zi ((0:Int)≤a)<|
 Zi ((a:Int)≤(iop .add .i64 a b))<|
 Zi (((iop .add .i64 a b):Int)≤(List.length c:Int))<|
 (Ziv (List.drop (Int.toNat a) (List.take (Int.toNat (iop .add .i64 a b)) c))).bind fun d=>
 some (d)):=by kernel_rfl
noncomputable def F26:Fn:=⟨30,[6],[],[],0,[],[],Tryz.f26,[.c (.slice 15),.c (.slice 3),.agg hs4],[.c (.int .i64)],[(55,F55.S),(30,F30.S),(56,F56.S)]⟩
theorem ZqU:F26.S.Ok Tryz.prog 26:=F26.ok Tryz.func26 (by kernel_rfl) ⟨Zot,⟨ZpA,⟨ZpV,trivial⟩⟩⟩
noncomputable def g26 (a b:LL) (c d e f h j k m n o p q:Int):Option (Int):=F26.S.g [.l a,.l b,.i c,.i d,.i e,.i f,.i h,.i j,.i k,.i m,.i n,.i o,.i p,.i q]
theorem Znw (c d:LL) (f g e h i j a k b l m n:Int):g26 c d f g e h i j a k b l m n =
 ((g55 b a).bind fun o=>
 if (!o) then
 some (6)
 else
 (g30 d b a).bind fun p=>
 if (!p.2) then
 some (11)
 else
 (g56 c e 1).bind fun q=>
 if q then
 some (3)
 else
 some (0)):=by kernel_rfl
noncomputable def F91:Fn:=⟨38,[4],[],[],0,[],[],Tryz.f91,[.c (.int .i64),.c (.int .i64)],[.c (.bool)],[]⟩
theorem ZpM:F91.S.Ok Tryz.prog 91:=F91.ok Tryz.func91 (by kernel_rfl) trivial
noncomputable def g91 (a b:Int):Option (Bool):=F91.S.g [.i a,.i b]
theorem Zmm (b a:Int):g91 b a =
 (if (cop .eql b 1) then
 if (cop .geq a 6) then
 some ((cop .leq a 40))
 else
 some (false)
 else
 if (cop .eql b 2) then
 if (cop .geq a 12) then
 some ((cop .leq a 40))
 else
 some (false)
 else
 if (cop .eql b 3) then
 some ((cop .eql a 12))
 else
 if (cop .eql b 4) then
 some ((cop .eql a 6))
 else
 if (cop .eql b 5) then
 some ((cop .eql a 10))
 else
 if (cop .eql b 6) then
 some ((cop .eql a 16))
 else
 some (false)):=by kernel_rfl
noncomputable def F29:Fn:=⟨8,[2],[],[],0,[],[],Tryz.f29,[.agg hs14],[.agg [.int .i64,.int .i64]],[]⟩
theorem Zp5:F29.S.Ok Tryz.prog 29:=F29.ok Tryz.func29 (by kernel_rfl) trivial
noncomputable def g29 (a c d e f h:Int) (j:Bool):Option (Int×Int):=F29.S.g [.i a,.i c,.i d,.i e,.i f,.i h,.b j]
theorem Znq (c a b d e f:Int) (g:Bool):g29 c a b d e f g =
 (some (a,b)):=by kernel_rfl
noncomputable def F92:Fn:=⟨22,[4],[],[],0,[],[],Tryz.f92,[.c (.int .i64),.c (.int .i64)],[.c (.bool)],[]⟩
theorem ZpX:F92.S.Ok Tryz.prog 92:=F92.ok Tryz.func92 (by kernel_rfl) trivial
noncomputable def g92 (a b:Int):Option (Bool):=F92.S.g [.i a,.i b]
theorem ZnM (b a:Int):g92 b a =
 (if (cop .eql b 32) then
 if (cop .geq a 0) then
 some ((cop .leq a 1))
 else
 some (false)
 else
 if (cop .eql b 39) then
 if (cop .geq a 0) then
 some ((cop .leq a 2))
 else
 some (false)
 else
 some (false)):=by kernel_rfl
noncomputable def F90:Fn:=⟨55,[2],[],[],0,[],[],Tryz.f90,[.agg hs14],[.c (.bool)],[(91,F91.S),(29,F29.S),(55,F55.S),(92,F92.S)]⟩
theorem ZqW:F90.S.Ok Tryz.prog 90:=F90.ok Tryz.func90 (by kernel_rfl) ⟨ZpM,⟨Zp5,⟨Zot,⟨ZpX,trivial⟩⟩⟩⟩
noncomputable def g90 (a c d e f h:Int) (j:Bool):Option (Bool):=F90.S.g [.i a,.i c,.i d,.i e,.i f,.i h,.b j]
theorem Zmh (a g f b c d:Int) (e:Bool):g90 a g f b c d e =
 ((g91 a f).bind fun i=>
 if (!i) then
 some (false)
 else
 (g29 a g f b c d e).bind fun h=>
 (g55 h.1 h.2).bind fun j=>
 if (!j) then
 some (false)
 else
 if (cop .lss b 0) then
 some (false)
 else
 if (cop .gtr b 7) then
 some (false)
 else
 if (cop .eql a 3) then
 (g92 c d).bind fun k=>
 if (!k) then
 some (false)
 else
 if (!e) then
 some (true)
 else
 if (cop .eql a 1) then
 some (true)
 else
 some ((cop .eql a 2))
 else
 if (cop .neq c 0) then
 some (false)
 else
 if (cop .neq d 0) then
 some (false)
 else
 if (!e) then
 some (true)
 else
 if (cop .eql a 1) then
 some (true)
 else
 some ((cop .eql a 2))):=by kernel_rfl
noncomputable def F58:Fn:=⟨118,[14,15],[(20,[(1,.c (.int .i64)),(2,.c (.int .i64)),(3,.c (.int .i64)),(4,.c (.int .i64)),(5,.c (.int .i64)),(7,.box hs14),(16,.c (.int .i64)),(17,.c (.own false 37)),(92,.c (.int .i64)),(93,.c (.int .i64))])],[],0,[],[],Tryz.f58,[.agg hs14,.c (.int .i64),.c (.int .i64),.c (.int .i64),.c (.int .i64),.c (.int .i64),.c (.int .i64)],[.c (.own false 37),.c (.int .i64)],[(90,F90.S),(91,F91.S),(92,F92.S)]⟩
theorem Zq2:F58.S.Ok Tryz.prog 58:=F58.ok Tryz.func58 (by kernel_rfl) ⟨ZqW,⟨ZpM,⟨ZpX,trivial⟩⟩⟩
noncomputable def g58 (a c d e f h:Int) (j:Bool) (k l m n o p:Int):Option (LL×Int):=F58.S.g [.i a,.i c,.i d,.i e,.i f,.i h,.b j,.i k,.i l,.i m,.i n,.i o,.i p]
noncomputable def J2 (k:Nat) (a c d e f g h j m n o:Int) (p:Bool) (q:Int) (r:LL) (s t:Int):Option (LL×Int):=F58.lp [0,1,1,1,0,1,0,0,1,1,1,1,0,0,1,2,1,0,1,0,1,0,0] 0 r0 k [.i a,.i c,.i d,.i e,.i f,.i g,.i h,.i j,.i m,.i n,.i o,.b p,.i q,.l r,.i s,.i t]
theorem ZeX (k:Nat) (b c d e f n g o h p q:Int) (i:Bool) (j:Int) (l:LL) (m a:Int):J2 (k+1) b c d e f n g o h p q i j l m a =
 (if (cop .lss a m) then
 Zi (Z5 l (E0++[[AV.val (.int .i64 b),AV.val (.int .i64 (iop .add .i64 (iop .add .i64 g f) (iop .mul .i64 a j))),AV.val (.int .i64 c),AV.val (.int .i64 h),AV.val (.int .i64 e),AV.val (.int .i64 d),AV.val (.bool i)]]) 56)<|
 J2 k b c d e f n g o h p q i j (l++(E0++[[AV.val (.int .i64 b),AV.val (.int .i64 (iop .add .i64 (iop .add .i64 g f) (iop .mul .i64 a j))),AV.val (.int .i64 c),AV.val (.int .i64 h),AV.val (.int .i64 e),AV.val (.int .i64 d),AV.val (.bool i)]])) m (iop .add .i64 a 1)
 else
 some (l,0)):=by kernel_rfl
theorem Znh (g i c h j k:Int) (f:Bool) (b a l m d e:Int):g58 g i c h j k f b a l m d e =
 ((g90 g i c h j k f).bind fun n=>
 if (!n) then
 some (E0,5)
 else
 if (cop .neq g 1) then
 some (E0,5)
 else
 if (cop .eql (iop .and .i64 h 2) 0) then
 some (E0,8)
 else
 (g91 b a).bind fun o=>
 if (!o) then
 some (E0,1)
 else
 if (cop .eql b 3) then
 (g92 m l).bind fun p=>
 if (!p) then
 some (E0,1)
 else
 if (cop .lss e 1) then
 some (E0,1)
 else
 if (cop .gtr e 8) then
 some (E0,1)
 else
 if (cop .lss d 0) then
 some (E0,1)
 else
 if f then
 if (cop .neq b 1) then
 if (cop .neq b 2) then
 some (E0,5)
 else
 Zi ((0:Int)≤a)<|
 Zi (((iop .shl .i64 1 a):Int)≠0)<|
 if (cop .neq (iop .rem .i64 d (iop .shl .i64 1 a)) 0) then
 some (E0,6)
 else
 Zi ((0:Int)≤c)<|
 if (cop .gtr d (iop .sub .i64 (iop .shl .i64 1 c) (iop .mul .i64 e (iop .shl .i64 1 a)))) then
 some (E0,6)
 else
 if (cop .eql b 1) then
 if (cop .geq a c) then
 some (E0,6)
 else
 if (cop .neq b 3) then
 J2 ZZ b a 0 0 d g i c h j k f (iop .shl .i64 1 a) E0 e 0
 else
 J2 ZZ b a l m d g i c h j k f (iop .shl .i64 1 a) E0 e 0
 else
 if (cop .neq b 3) then
 J2 ZZ b a 0 0 d g i c h j k f (iop .shl .i64 1 a) E0 e 0
 else
 J2 ZZ b a l m d g i c h j k f (iop .shl .i64 1 a) E0 e 0
 else
 Zi ((0:Int)≤a)<|
 Zi (((iop .shl .i64 1 a):Int)≠0)<|
 if (cop .neq (iop .rem .i64 d (iop .shl .i64 1 a)) 0) then
 some (E0,6)
 else
 Zi ((0:Int)≤c)<|
 if (cop .gtr d (iop .sub .i64 (iop .shl .i64 1 c) (iop .mul .i64 e (iop .shl .i64 1 a)))) then
 some (E0,6)
 else
 if (cop .eql b 1) then
 if (cop .geq a c) then
 some (E0,6)
 else
 if (cop .neq b 3) then
 J2 ZZ b a 0 0 d g i c h j k f (iop .shl .i64 1 a) E0 e 0
 else
 J2 ZZ b a l m d g i c h j k f (iop .shl .i64 1 a) E0 e 0
 else
 if (cop .neq b 3) then
 J2 ZZ b a 0 0 d g i c h j k f (iop .shl .i64 1 a) E0 e 0
 else
 J2 ZZ b a l m d g i c h j k f (iop .shl .i64 1 a) E0 e 0
 else
 Zi ((0:Int)≤a)<|
 Zi (((iop .shl .i64 1 a):Int)≠0)<|
 if (cop .neq (iop .rem .i64 d (iop .shl .i64 1 a)) 0) then
 some (E0,6)
 else
 Zi ((0:Int)≤c)<|
 if (cop .gtr d (iop .sub .i64 (iop .shl .i64 1 c) (iop .mul .i64 e (iop .shl .i64 1 a)))) then
 some (E0,6)
 else
 if (cop .eql b 1) then
 if (cop .geq a c) then
 some (E0,6)
 else
 if (cop .neq b 3) then
 J2 ZZ b a 0 0 d g i c h j k f (iop .shl .i64 1 a) E0 e 0
 else
 J2 ZZ b a l m d g i c h j k f (iop .shl .i64 1 a) E0 e 0
 else
 if (cop .neq b 3) then
 J2 ZZ b a 0 0 d g i c h j k f (iop .shl .i64 1 a) E0 e 0
 else
 J2 ZZ b a l m d g i c h j k f (iop .shl .i64 1 a) E0 e 0
 else
 if (cop .lss e 1) then
 some (E0,1)
 else
 if (cop .gtr e 8) then
 some (E0,1)
 else
 if (cop .lss d 0) then
 some (E0,1)
 else
 if f then
 if (cop .neq b 1) then
 if (cop .neq b 2) then
 some (E0,5)
 else
 Zi ((0:Int)≤a)<|
 Zi (((iop .shl .i64 1 a):Int)≠0)<|
 if (cop .neq (iop .rem .i64 d (iop .shl .i64 1 a)) 0) then
 some (E0,6)
 else
 Zi ((0:Int)≤c)<|
 if (cop .gtr d (iop .sub .i64 (iop .shl .i64 1 c) (iop .mul .i64 e (iop .shl .i64 1 a)))) then
 some (E0,6)
 else
 if (cop .eql b 1) then
 if (cop .geq a c) then
 some (E0,6)
 else
 if (cop .neq b 3) then
 J2 ZZ b a 0 0 d g i c h j k f (iop .shl .i64 1 a) E0 e 0
 else
 J2 ZZ b a l m d g i c h j k f (iop .shl .i64 1 a) E0 e 0
 else
 if (cop .neq b 3) then
 J2 ZZ b a 0 0 d g i c h j k f (iop .shl .i64 1 a) E0 e 0
 else
 J2 ZZ b a l m d g i c h j k f (iop .shl .i64 1 a) E0 e 0
 else
 Zi ((0:Int)≤a)<|
 Zi (((iop .shl .i64 1 a):Int)≠0)<|
 if (cop .neq (iop .rem .i64 d (iop .shl .i64 1 a)) 0) then
 some (E0,6)
 else
 Zi ((0:Int)≤c)<|
 if (cop .gtr d (iop .sub .i64 (iop .shl .i64 1 c) (iop .mul .i64 e (iop .shl .i64 1 a)))) then
 some (E0,6)
 else
 if (cop .eql b 1) then
 if (cop .geq a c) then
 some (E0,6)
 else
 if (cop .neq b 3) then
 J2 ZZ b a 0 0 d g i c h j k f (iop .shl .i64 1 a) E0 e 0
 else
 J2 ZZ b a l m d g i c h j k f (iop .shl .i64 1 a) E0 e 0
 else
 if (cop .neq b 3) then
 J2 ZZ b a 0 0 d g i c h j k f (iop .shl .i64 1 a) E0 e 0
 else
 J2 ZZ b a l m d g i c h j k f (iop .shl .i64 1 a) E0 e 0
 else
 Zi ((0:Int)≤a)<|
 Zi (((iop .shl .i64 1 a):Int)≠0)<|
 if (cop .neq (iop .rem .i64 d (iop .shl .i64 1 a)) 0) then
 some (E0,6)
 else
 Zi ((0:Int)≤c)<|
 if (cop .gtr d (iop .sub .i64 (iop .shl .i64 1 c) (iop .mul .i64 e (iop .shl .i64 1 a)))) then
 some (E0,6)
 else
 if (cop .eql b 1) then
 if (cop .geq a c) then
 some (E0,6)
 else
 if (cop .neq b 3) then
 J2 ZZ b a 0 0 d g i c h j k f (iop .shl .i64 1 a) E0 e 0
 else
 J2 ZZ b a l m d g i c h j k f (iop .shl .i64 1 a) E0 e 0
 else
 if (cop .neq b 3) then
 J2 ZZ b a 0 0 d g i c h j k f (iop .shl .i64 1 a) E0 e 0
 else
 J2 ZZ b a l m d g i c h j k f (iop .shl .i64 1 a) E0 e 0):=by kernel_rfl
noncomputable def F93:Fn:=⟨19,[4],[(2,[(0,.c (.slice 1)),(1,.c (.int .i64)),(7,.c (.int .i64)),(8,.c (.int .i64))])],[],0,[],[],Tryz.f93,[.c (.slice 1),.c (.int .i64)],[.c (.int .i64)],[]⟩
theorem Zq3:F93.S.Ok Tryz.prog 93:=F93.ok Tryz.func93 (by kernel_rfl) trivial
noncomputable def g93 (a:LL) (b:Int):Option (Int):=F93.S.g [.l a,.i b]
noncomputable def Zgx (k:Nat) (a:LL) (b c d:Int):Option (Int):=F93.lp [0] 0 r0 k [.l a,.i b,.i c,.i d]
theorem Zfq (k:Nat) (b:LL) (c d a:Int):Zgx (k+1) b c d a =
 (if (cop .lss a d) then
 Zj b a [.int .i64] fun (e:Int)=>
 if (cop .eql c e) then
 some (a)
 else
 Zgx k b c d (iop .add .i64 a 1)
 else
 some ((-1))):=by kernel_rfl
theorem ZmK (a:LL) (b:Int):g93 a b =
 (Zgx ZZ a b (List.length a:Int) 0):=by kernel_rfl
noncomputable def F59:Fn:=⟨9,[4],[],[],0,[],[],Tryz.f59,[.c (.slice 1),.c (.int .i64)],[.c (.bool)],[(93,F93.S)]⟩
theorem Zqw:F59.S.Ok Tryz.prog 59:=F59.ok Tryz.func59 (by kernel_rfl) ⟨Zq3,trivial⟩
noncomputable def g59 (a:LL) (b:Int):Option (Bool):=F59.S.g [.l a,.i b]
theorem ZnQ (a:LL) (b:Int):g59 a b =
 ((g93 a b).bind fun c=>
 some ((cop .geq c 0))):=by kernel_rfl
noncomputable def F27:Fn:=⟨99,[8],[],[],0,[],[],Tryz.f27,[.c (.int .i64),.c (.slice 15),.c (.slice 1),.agg hs4],[.c (.int .i64)],[(57,F57.S),(58,F58.S),(56,F56.S),(59,F59.S)]⟩
theorem Zqs:F27.S.Ok Tryz.prog 27:=F27.ok Tryz.func27 (by kernel_rfl) ⟨ZpY,⟨Zq2,⟨ZpV,⟨Zqw,trivial⟩⟩⟩⟩
noncomputable def g27 (a:Int) (b c:LL) (d e f h j k m n o p q r:Int):Option (Int):=F27.S.g [.i a,.l b,.l c,.i d,.i e,.i f,.i h,.i j,.i k,.i m,.i n,.i o,.i p,.i q,.i r]
theorem ZmB (i:Int) (d j:LL) (e f g k p l m n o h q r:Int):g27 i d j e f g k p l m n o h q r =
 (Zj d f hs2 fun (a:Qt12)=>
 Zj d f hs2 fun (b:Qt12)=>
 (g57 b.1 b.2.1 b.2.2.1 b.2.2.2.1 b.2.2.2.2.1 b.2.2.2.2.2.1 b.2.2.2.2.2.2.1 b.2.2.2.2.2.2.2.1 b.2.2.2.2.2.2.2.2.1 b.2.2.2.2.2.2.2.2.2.1 b.2.2.2.2.2.2.2.2.2.2.1 b.2.2.2.2.2.2.2.2.2.2.2.1 (d4 (d8 b)).1 (d4 (d8 b)).2.1 (d2 (d4 (d8 b)))).bind fun s=>
 if s then
 some (2)
 else
 if (cop .eql e 2) then
 (g58 a.2.2.2.2.1 a.2.2.2.2.2.1 a.2.2.2.2.2.2.1 a.2.2.2.2.2.2.2.1 a.2.2.2.2.2.2.2.2.1 a.2.2.2.2.2.2.2.2.2.1 a.2.2.2.2.2.2.2.2.2.2.1 l m n i o h).bind fun c=>
 if (cop .neq c.2 0) then
 some (c.2)
 else
 (g56 d g h).bind fun t=>
 if t then
 some (3)
 else
 if (cop .geq (List.length a.2.2.2.1:Int) 8) then
 some (9)
 else
 some (0)
 else
 if (cop .eql e 3) then
 (g56 d g 1).bind fun c=>
 if c then
 some (3)
 else
 if (cop .geq (List.length a.2.2.2.1:Int) 8) then
 some (9)
 else
 some (0)
 else
 if (cop .eql e 4) then
 if (cop .eql a.2.2.2.2.1 3) then
 some (5)
 else
 if (cop .eql a.2.2.2.2.1 5) then
 some (5)
 else
 if (cop .eql a.2.2.2.2.1 6) then
 some (5)
 else
 if (cop .eql (iop .and .i64 a.2.2.2.2.2.2.2.1 4) 0) then
 some (8)
 else
 if (cop .geq (List.length a.2.2.2.1:Int) 8) then
 some (9)
 else
 (g59 j k).bind fun c=>
 if (!c) then
 some (10)
 else
 if (cop .geq (List.length a.2.2.2.1:Int) 8) then
 some (9)
 else
 some (0)
 else
 some (0)):=by kernel_rfl
noncomputable def F60:Fn:=⟨8,[2],[],[],0,[],[],Tryz.f60,[.c (.slice 3)],[.c (.own false 48)],[]⟩
theorem Zql:F60.S.Ok Tryz.prog 60:=F60.ok Tryz.func60 (by kernel_rfl) trivial
noncomputable def g60 (a:LL):Option (LL):=F60.S.g [.l a]
theorem Znj (a:LL):g60 a =
 (ZlF a fun b=>
 if b then
 some (E0)
 else
 Zi (Z5 E0 a 24)<|
 some ((E0++a))):=by kernel_rfl
noncomputable def F28:Fn:=⟨8,[2],[],[],0,[],[],Tryz.f28,[.agg hs6],[.agg hs6],[(60,F60.S)]⟩
theorem ZqC:F28.S.Ok Tryz.prog 28:=F28.ok Tryz.func28 (by kernel_rfl) ⟨Zql,trivial⟩
noncomputable def g28 (a c d:Int) (e:LL) (f h j k m n:Int) (o:Bool):Option (Qt19):=F28.S.g [.i a,.i c,.i d,.l e,.i f,.i h,.i j,.i k,.i m,.i n,.b o]
theorem Zm4 (a b c:Int) (d:LL) (e f g h i j:Int) (k:Bool):g28 a b c d e f g h i j k =
 ((g60 d).bind fun l=>
 some (a,b,c,l,e,f,g,h,i,j,k)):=by kernel_rfl
end Go.Proofs.YtapbmpfhogkkaaaGreat
