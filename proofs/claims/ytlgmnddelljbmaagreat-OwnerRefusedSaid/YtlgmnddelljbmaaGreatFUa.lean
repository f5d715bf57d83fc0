/- Functions of the program, as what they compute. -/
import Derived.Test.YtlgmnddelljbmaaGreatGU
namespace Go.Proofs.YtlgmnddelljbmaaGreat
open Go Go.AM
set_option linter.unusedVariables false
set_option maxRecDepth 100000
noncomputable def Zko:Fn:=⟨31,[2],[],[],0,[],[],Tryz.f150,[.agg [.int .i64,.int .i64,.int .i64]],[.c (.bool)],[]⟩
theorem Zh4:Zko.S.Ok Tryz.prog 150:=Zko.ok Tryz.func150 (by kernel_rfl) trivial
noncomputable def Zmc (a b c:Int):Option (Bool):=Zko.S.g [.i a,.i b,.i c]
theorem Zk2 (a b c:Int):Zmc a b c =
 (if (cop .geq a 0) then
 if (cop .lss a 32) then
 if (cop .geq b 1) then
 if (cop .leq b 1073741824) then
 if (cop .geq c 0) then
 some ((cop .lss c 8))
 else
 some (false)
 else
 some (false)
 else
 some (false)
 else
 some (false)
 else
 some (false)):=by kernel_rfl
noncomputable def F90:Fn:=⟨10,[2],[],[],0,[],[],Tryz.f90,[.agg [.int .i64,.int .i64,.int .i64]],[.c (.bool)],[(150,Zko.S)]⟩
theorem ZoI:F90.S.Ok Tryz.prog 90:=F90.ok Tryz.func90 (by kernel_rfl) ⟨Zh4,trivial⟩
noncomputable def g90 (a b c:Int):Option (Bool):=F90.S.g [.i a,.i b,.i c]
theorem Zkj (b c a:Int):g90 b c a =
 ((Zmc b c a).bind fun d=>
 if d then
 some ((cop .eql a 0))
 else
 some (false)):=by kernel_rfl
noncomputable def F91:Fn:=⟨9,[2],[],[],0,[],[],Tryz.f91,[.c (.int .i64)],[.c (.bool)],[]⟩
theorem Zos:F91.S.Ok Tryz.prog 91:=F91.ok Tryz.func91 (by kernel_rfl) trivial
noncomputable def g91 (a:Int):Option (Bool):=F91.S.g [.i a]
noncomputable def Zru:Fn:=⟨26,[4],[(4,[(0,.c (.slice 3)),(1,.c (.slice 3)),(12,.c (.int .i64)),(13,.c (.int .i64))])],[],0,[],[],Tryz.f151,[.c (.slice 3),.c (.slice 3)],[.c (.bool)],[]⟩
theorem Zpi:Zru.S.Ok Tryz.prog 151:=Zru.ok Tryz.func151 (by kernel_rfl) trivial
noncomputable def F92:Fn:=⟨24,[4],[],[],0,[],[],Tryz.f92,[.agg hs19,.agg hs19],[.c (.bool)],[(151,Zru.S)]⟩
theorem Zq7:F92.S.Ok Tryz.prog 92:=F92.ok Tryz.func92 (by kernel_rfl) ⟨Zpi,trivial⟩
noncomputable def g92 (a c d:Int) (e:LL) (f h j k m n:Int) (o:Bool) (p q r:Int) (s:LL) (t u v w x y:Int) (z:Bool):Option (Bool):=F92.S.g [.i a,.i c,.i d,.l e,.i f,.i h,.i j,.i k,.i m,.i n,.b o,.i p,.i q,.i r,.l s,.i t,.i u,.i v,.i w,.i x,.i y,.b z]
noncomputable def Znx:Fn:=⟨38,[4],[],[],0,[],[],Tryz.f194,[.c (.int .i64),.c (.int .i64)],[.c (.bool)],[]⟩
theorem Zn2:Znx.S.Ok Tryz.prog 194:=Znx.ok Tryz.func194 (by kernel_rfl) trivial
noncomputable def Zp6 (a b:Int):Option (Bool):=Znx.S.g [.i a,.i b]
theorem ZlP (b a:Int):Zp6 b a =
 (if (cop .eql b 1) then
 if (cop .geq a 6) then
 some ((cop .leq a 40))
 else
 some (false)
 else
 if (cop .eql b 2) then
 if (cop .geq a 12) then
 some ((cop .leq a 40))
 else
 some (false)
 else
 if (cop .eql b 3) then
 some ((cop .eql a 12))
 else
 if (cop .eql b 4) then
 some ((cop .eql a 6))
 else
 if (cop .eql b 5) then
 some ((cop .eql a 10))
 else
 if (cop .eql b 6) then
 some ((cop .eql a 16))
 else
 some (false)):=by kernel_rfl
noncomputable def Znw:Fn:=⟨8,[2],[],[],0,[],[],Tryz.f196,[.agg hs22],[.agg [.int .i64,.int .i64]],[]⟩
theorem Zor:Znw.S.Ok Tryz.prog 196:=Znw.ok Tryz.func196 (by kernel_rfl) trivial
noncomputable def ZpD (a c d e f h:Int) (j:Bool):Option (Int×Int):=Znw.S.g [.i a,.i c,.i d,.i e,.i f,.i h,.b j]
theorem Zlq (c a b d e f:Int) (g:Bool):ZpD c a b d e f g =
 (some (a,b)):=by kernel_rfl
noncomputable def Zkg:Fn:=⟨32,[2],[],[],0,[],[],Tryz.f195,[.agg [.int .i64,.int .i64]],[.c (.bool)],[]⟩
theorem Zhm:Zkg.S.Ok Tryz.prog 195:=Zkg.ok Tryz.func195 (by kernel_rfl) trivial
noncomputable def Zrq (a b:Int):Option (Bool):=Zkg.S.g [.i a,.i b]
theorem Zlp (b a:Int):Zrq b a =
 (if (cop .lss a 6) then
 some (false)
 else
 if (cop .gtr a 40) then
 some (false)
 else
 if (cop .lss b 0) then
 some (false)
 else
 ZV ((0:Int)≤a)<|
 ZV (((iop .shl .i64 1 a):Int)≠0)<|
 if (cop .eql (iop .rem .i64 b (iop .shl .i64 1 a)) 0) then
 some ((cop .leq b (iop .sub .i64 1099511627776 (iop .shl .i64 1 a))))
 else
 some (false)):=by kernel_rfl
noncomputable def ZnW:Fn:=⟨22,[4],[],[],0,[],[],Tryz.f197,[.c (.int .i64),.c (.int .i64)],[.c (.bool)],[]⟩
theorem ZnA:ZnW.S.Ok Tryz.prog 197:=ZnW.ok Tryz.func197 (by kernel_rfl) trivial
noncomputable def Zqk (a b:Int):Option (Bool):=ZnW.S.g [.i a,.i b]
theorem Zk3 (b a:Int):Zqk b a =
 (if (cop .eql b 32) then
 if (cop .geq a 0) then
 some ((cop .leq a 1))
 else
 some (false)
 else
 if (cop .eql b 39) then
 if (cop .geq a 0) then
 some ((cop .leq a 2))
 else
 some (false)
 else
 some (false)):=by kernel_rfl
noncomputable def Zl6:Fn:=⟨55,[2],[],[],0,[],[],Tryz.f152,[.agg hs22],[.c (.bool)],[(194,Znx.S),(196,Znw.S),(195,Zkg.S),(197,ZnW.S)]⟩
theorem Zlm:Zl6.S.Ok Tryz.prog 152:=Zl6.ok Tryz.func152 (by kernel_rfl) ⟨Zn2,⟨Zor,⟨Zhm,⟨ZnA,trivial⟩⟩⟩⟩
noncomputable def ZoJ (a c d e f h:Int) (j:Bool):Option (Bool):=Zl6.S.g [.i a,.i c,.i d,.i e,.i f,.i h,.b j]
theorem Zlj (a g f b c d:Int) (e:Bool):ZoJ a g f b c d e =
 ((Zp6 a f).bind fun i=>
 if (!i) then
 some (false)
 else
 (ZpD a g f b c d e).bind fun h=>
 (Zrq h.1 h.2).bind fun j=>
 if (!j) then
 some (false)
 else
 if (cop .lss b 0) then
 some (false)
 else
 if (cop .gtr b 7) then
 some (false)
 else
 if (cop .eql a 3) then
 (Zqk c d).bind fun k=>
 if (!k) then
 some (false)
 else
 if (!e) then
 some (true)
 else
 if (cop .eql a 1) then
 some (true)
 else
 some ((cop .eql a 2))
 else
 if (cop .neq c 0) then
 some (false)
 else
 if (cop .neq d 0) then
 some (false)
 else
 if (!e) then
 some (true)
 else
 if (cop .eql a 1) then
 some (true)
 else
 some ((cop .eql a 2))):=by kernel_rfl
noncomputable def Zod:Fn:=⟨19,[4],[(2,[(0,.c (.slice 3)),(3,.box [.int .i64,.int .i64,.int .i64]),(7,.c (.int .i64)),(8,.c (.int .i64))])],[],0,[],[],Tryz.f198,[.c (.slice 3),.agg [.int .i64,.int .i64,.int .i64]],[.c (.int .i64)],[]⟩
theorem ZpY:Zod.S.Ok Tryz.prog 198:=Zod.ok Tryz.func198 (by kernel_rfl) trivial
noncomputable def Zr6 (a:LL) (b c d:Int):Option (Int):=Zod.S.g [.l a,.i b,.i c,.i d]
noncomputable def Zds (k:Nat) (a:LL) (b c d e f:Int):Option (Int):=Zod.lp [0] 0 r0 k [.l a,.i b,.i c,.i d,.i e,.i f]
theorem Zdl (k:Nat) (b:LL) (c d e f a:Int):Zds (k+1) b c d e f a =
 (if (cop .lss a f) then
 Zu b a [.int .i64,.int .i64,.int .i64] fun (g:Int×Int×Int)=>
 if ((cop .eql c g.1)&&((cop .eql d g.2.1)&&((cop .eql e g.2.2)&&true))) then
 some (a)
 else
 Zds k b c d e f (iop .add .i64 a 1)
 else
 some ((-1))):=by kernel_rfl
theorem ZlG (a:LL) (b c d:Int):Zr6 a b c d =
 (Zds JD a b c d (List.length a:Int) 0):=by kernel_rfl
noncomputable def Zmy:Fn:=⟨9,[4],[],[],0,[],[],Tryz.f153,[.c (.slice 3),.agg [.int .i64,.int .i64,.int .i64]],[.c (.bool)],[(198,Zod.S)]⟩
theorem Zoa:Zmy.S.Ok Tryz.prog 153:=Zmy.ok Tryz.func153 (by kernel_rfl) ⟨ZpY,trivial⟩
noncomputable def Zoy (a:LL) (b c d:Int):Option (Bool):=Zmy.S.g [.l a,.i b,.i c,.i d]
theorem ZlV (a:LL) (b c d:Int):Zoy a b c d =
 ((Zr6 a b c d).bind fun e=>
 some ((cop .geq e 0))):=by kernel_rfl
noncomputable def F93:Fn:=⟨47,[2],[(4,[(1,.box hs19),(22,.c (.slice 3)),(23,.c (.int .i64)),(24,.c (.int .i64))])],[],0,[],[],Tryz.f93,[.agg hs19],[.c (.bool)],[(150,Zko.S),(152,Zl6.S),(153,Zmy.S)]⟩
theorem Zm8:F93.S.Ok Tryz.prog 93:=F93.ok Tryz.func93 (by kernel_rfl) ⟨Zh4,⟨Zlm,⟨Zoa,trivial⟩⟩⟩
noncomputable def g93 (a c d:Int) (e:LL) (f h j k m n:Int) (o:Bool):Option (Bool):=F93.S.g [.i a,.i c,.i d,.l e,.i f,.i h,.i j,.i k,.i m,.i n,.b o]
noncomputable def Zi8 (k:Nat) (a c d:Int) (e:LL) (f g h j m n:Int) (o:Bool) (p:LL) (q r:Int):Option (Bool):=F93.lp [0,1,0,1,1,0] 0 r0 k [.i a,.i c,.i d,.l e,.i f,.i g,.i h,.i j,.i m,.i n,.b o,.l p,.i q,.i r]
theorem Ze6 (k:Nat) (d e f:Int) (c:LL) (i j l m n o:Int) (p:Bool) (g:LL) (h b:Int):Zi8 (k+1) d e f c i j l m n o p g h b =
 (if (cop .lss b h) then
 Zu g b [.int .i64,.int .i64,.int .i64] fun (a:Int×Int×Int)=>
 (Zmc a.1 a.2.1 a.2.2).bind fun q=>
 if (!q) then
 some (false)
 else
 if ((cop .eql a.1 d)&&((cop .eql a.2.1 e)&&((cop .eql a.2.2 f)&&true))) then
 some (false)
 else
 ZV ((0:Int)≤b)<|
 ZV ((b:Int)≤(List.length c:Int))<|
 (Zoy (List.take (Int.toNat b) c) a.1 a.2.1 a.2.2).bind fun r=>
 if r then
 some (false)
 else
 Zi8 k d e f c i j l m n o p g h (iop .add .i64 b 1)
 else
 some (true)):=by kernel_rfl
theorem ZnB (b c d:Int) (a:LL) (e f g h i j:Int) (k:Bool):g93 b c d a e f g h i j k =
 ((Zmc b c d).bind fun l=>
 if (!l) then
 some (false)
 else
 (ZoJ e f g h i j k).bind fun m=>
 if (!m) then
 some (false)
 else
 if (cop .gtr (List.length a:Int) 8) then
 some (false)
 else
 Zi8 JD b c d a e f g h i j k a (List.length a:Int) 0):=by kernel_rfl
noncomputable def F42:Fn:=⟨46,[2],[],[],0,[],[],Tryz.f42,[.agg hs7],[.c (.bool)],[(90,F90.S),(91,F91.S),(92,F92.S),(93,F93.S)]⟩
theorem Zpx:F42.S.Ok Tryz.prog 42:=F42.ok Tryz.func42 (by kernel_rfl) ⟨ZoI,⟨Zos,⟨Zq7,⟨Zm8,trivial⟩⟩⟩⟩
noncomputable def g42 (a c d e f h j k m n o p q r s t u v w x:Int) (y:LL) (z A C D E G:Int) (H:Bool):Option (Bool):=F42.S.g [.i a,.i c,.i d,.i e,.i f,.i h,.i j,.i k,.i m,.i n,.i o,.i p,.i q,.i r,.i s,.i t,.i u,.i v,.i w,.i x,.l y,.i z,.i A,.i C,.i D,.i E,.i G,.b H]
theorem Zoq (o p q b s t u v w x y z A C D r n c d e:Int) (f:LL) (g h i j k l:Int) (m:Bool):g42 o p q b s t u v w x y z A C D r n c d e f g h i j k l m =
 ((g90 o p q).bind fun E=>
 if (!E) then
 some (false)
 else
 if (cop .lss b 1) then
 some (false)
 else
 if (cop .gtr b 6) then
 some (false)
 else
 (g91 r).bind fun G=>
 if (!G) then
 some (false)
 else
 if (cop .neq n 32) then
 if (cop .neq n 39) then
 some (false)
 else
 if (cop .eql b 1) then
 (g92 c d e f g h i j k l m 0 0 0 E0 0 0 0 0 0 0 false).bind fun a=>
 some (a)
 else
 (g93 c d e f g h i j k l m).bind fun a=>
 some (a)
 else
 if (cop .eql b 1) then
 (g92 c d e f g h i j k l m 0 0 0 E0 0 0 0 0 0 0 false).bind fun a=>
 some (a)
 else
 (g93 c d e f g h i j k l m).bind fun a=>
 some (a)):=by kernel_rfl
end Go.Proofs.YtlgmnddelljbmaaGreat
