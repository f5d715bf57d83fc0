/- Functions of the program, as what they compute. -/
import Derived.Test.YtjldbnbdcmfbmaaGreatGW8
namespace Go.Proofs.YtjldbnbdcmfbmaaGreat
open Go Go.AM
set_option linter.unusedVariables false
set_option maxRecDepth 100000
noncomputable def F32:Fn:=⟨44,[2,3],[],[],0,[],[],Tryz.f32,[.c (.int .i64)],[.c (.own false 89),.c (.bool)],[]⟩
theorem ZzY:F32.S.Ok Tryz.prog 32:=F32.ok Tryz.func32 (by kernel_rfl) trivial
noncomputable def g32 (a:Int):Option (LL×Bool):=F32.S.g [.i a]
theorem YG (a:Int):g32 a =
 (if (cop .eql a 1) then
 some (((E0++[[AV.val (.int .i64 0)]])++[[AV.val (.int .i64 1)]]),true)
 else
 if (cop .eql a 2) then
 some ((((((E0++[[AV.val (.int .i64 0)]])++[[AV.val (.int .i64 2)]])++[[AV.val (.int .i64 3)]])++[[AV.val (.int .i64 4)]])++[[AV.val (.int .i64 5)]]),true)
 else
 if (cop .eql a 3) then
 some (((E0++[[AV.val (.int .i64 0)]])++[[AV.val (.int .i64 2)]]),true)
 else
 if (cop .eql a 7) then
 some (((E0++[[AV.val (.int .i64 0)]])++[[AV.val (.int .i64 2)]]),true)
 else
 if (cop .eql a 8) then
 some (((E0++[[AV.val (.int .i64 0)]])++[[AV.val (.int .i64 2)]]),true)
 else
 if (cop .eql a 9) then
 some (((E0++[[AV.val (.int .i64 0)]])++[[AV.val (.int .i64 2)]]),true)
 else
 if (cop .eql a 10) then
 some (((E0++[[AV.val (.int .i64 0)]])++[[AV.val (.int .i64 2)]]),true)
 else
 if (cop .eql a 11) then
 some (((E0++[[AV.val (.int .i64 0)]])++[[AV.val (.int .i64 2)]]),true)
 else
 if (cop .eql a 4) then
 some (((((E0++[[AV.val (.int .i64 0)]])++[[AV.val (.int .i64 2)]])++[[AV.val (.int .i64 6)]])++[[AV.val (.int .i64 5)]]),true)
 else
 if (cop .eql a 5) then
 some ((((E0++[[AV.val (.int .i64 0)]])++[[AV.val (.int .i64 2)]])++[[AV.val (.int .i64 3)]]),true)
 else
 if (cop .eql a 6) then
 some ((((E0++[[AV.val (.int .i64 0)]])++[[AV.val (.int .i64 2)]])++[[AV.val (.int .i64 7)]]),true)
 else
 if (cop .eql a 12) then
 some (((E0++[[AV.val (.int .i64 8)]])++[[AV.val (.int .i64 9)]]),true)
 else
 if (cop .eql a 13) then
 some (((E0++[[AV.val (.int .i64 8)]])++[[AV.val (.int .i64 10)]]),true)
 else
 if (cop .eql a 14) then
 some ((((((E0++[[AV.val (.int .i64 8)]])++[[AV.val (.int .i64 11)]])++[[AV.val (.int .i64 9)]])++[[AV.val (.int .i64 12)]])++[[AV.val (.int .i64 13)]]),true)
 else
 if (cop .eql a 15) then
 some ((E0++[[AV.val (.int .i64 8)]]),true)
 else
 if (cop .eql a 16) then
 some ((E0++[[AV.val (.int .i64 8)]]),true)
 else
 if (cop .eql a 17) then
 some (((E0++[[AV.val (.int .i64 9)]])++[[AV.val (.int .i64 14)]]),true)
 else
 some (E0,false)):=by kernel_rfl
noncomputable def F33:Fn:=⟨9,[2],[],[],0,[],[],Tryz.f33,[.c (.int .i64)],[.c (.bool)],[]⟩
theorem ZxV:F33.S.Ok Tryz.prog 33:=F33.ok Tryz.func33 (by kernel_rfl) trivial
noncomputable def g33 (a:Int):Option (Bool):=F33.S.g [.i a]
theorem Zvk (a:Int):g33 a =
 (if (cop .geq a 0) then
 some ((cop .leq a 1073741824))
 else
 some (false)):=by kernel_rfl
noncomputable def F34:Fn:=⟨9,[2],[],[],0,[],[],Tryz.f34,[.c (.int .i64)],[.c (.bool)],[]⟩
theorem Zrd:F34.S.Ok Tryz.prog 34:=F34.ok Tryz.func34 (by kernel_rfl) trivial
noncomputable def g34 (a:Int):Option (Bool):=F34.S.g [.i a]
theorem ZuL (a:Int):g34 a =
 (if (cop .geq a 0) then
 some ((cop .lss a 32))
 else
 some (false)):=by kernel_rfl
noncomputable def F89:Fn:=⟨9,[2],[],[],0,[],[],Tryz.f89,[.c (.int .i64)],[.c (.bool)],[]⟩
theorem Zwk:F89.S.Ok Tryz.prog 89:=F89.ok Tryz.func89 (by kernel_rfl) trivial
noncomputable def g89 (a:Int):Option (Bool):=F89.S.g [.i a]
theorem Zur (a:Int):g89 a =
 (if (cop .geq a 0) then
 some ((cop .lss a 16))
 else
 some (false)):=by kernel_rfl
noncomputable def F99:Fn:=⟨31,[2],[],[],0,[],[],Tryz.f99,[.agg [.int .i64,.int .i64,.int .i64]],[.c (.bool)],[]⟩
theorem Zxg:F99.S.Ok Tryz.prog 99:=F99.ok Tryz.func99 (by kernel_rfl) trivial
noncomputable def g99 (a b c:Int):Option (Bool):=F99.S.g [.i a,.i b,.i c]
theorem ZvX (a b c:Int):g99 a b c =
 (if (cop .geq a 0) then
 if (cop .lss a 32) then
 if (cop .geq b 1) then
 if (cop .leq b 1073741824) then
 if (cop .geq c 0) then
 some ((cop .lss c 8))
 else
 some (false)
 else
 some (false)
 else
 some (false)
 else
 some (false)
 else
 some (false)):=by kernel_rfl
noncomputable def F91:Fn:=⟨10,[2],[],[],0,[],[],Tryz.f91,[.agg [.int .i64,.int .i64,.int .i64]],[.c (.bool)],[(99,F99.S)]⟩
theorem ZwT:F91.S.Ok Tryz.prog 91:=F91.ok Tryz.func91 (by kernel_rfl) ⟨Zxg,trivial⟩
noncomputable def g91 (a b c:Int):Option (Bool):=F91.S.g [.i a,.i b,.i c]
theorem Zv6 (b c a:Int):g91 b c a =
 ((g99 b c a).bind fun d=>
 if d then
 some ((cop .eql a 0))
 else
 some (false)):=by kernel_rfl
noncomputable def Zwb:Fn:=⟨26,[4],[(4,[(0,.c (.slice 3)),(1,.c (.slice 3)),(12,.c (.int .i64)),(13,.c (.int .i64))])],[],0,[],[],Tryz.f196,[.c (.slice 3),.c (.slice 3)],[.c (.bool)],[]⟩
theorem ZzU:Zwb.S.Ok Tryz.prog 196:=Zwb.ok Tryz.func196 (by kernel_rfl) trivial
noncomputable def Zxt (a b:LL):Option (Bool):=Zwb.S.g [.l a,.l b]
noncomputable def Zck (k:Nat) (a b:LL) (c d:Int):Option (Bool):=Zwb.lp [1,0] 0 r0 k [.l a,.l b,.i c,.i d]
theorem ZgJ (k:Nat) (b c:LL) (d a:Int):Zck (k+1) b c d a =
 (if (cop .lss a d) then
 Zj b a [.int .i64,.int .i64,.int .i64] fun (e:Int×Int×Int)=>
 Zj c a [.int .i64,.int .i64,.int .i64] fun (f:Int×Int×Int)=>
 if (!((cop .eql e.1 f.1)&&((cop .eql e.2.1 f.2.1)&&((cop .eql e.2.2 f.2.2)&&true)))) then
 some (false)
 else
 Zck k b c d (iop .add .i64 a 1)
 else
 some (true)):=by kernel_rfl
theorem ZsT (a b:LL):Zxt a b =
 (if (cop .neq (List.length a:Int) (List.length b:Int)) then
 some (false)
 else
 Zck ZE a b (List.length a:Int) 0):=by kernel_rfl
noncomputable def Zto:Fn:=⟨24,[4],[],[],0,[],[],Tryz.f164,[.agg hs16,.agg hs16],[.c (.bool)],[(196,Zwb.S)]⟩
theorem Zr3:Zto.S.Ok Tryz.prog 164:=Zto.ok Tryz.func164 (by kernel_rfl) ⟨ZzU,trivial⟩
noncomputable def Zqq (a c d:Int) (e:LL) (f h j k m n:Int) (o:Bool) (p q r:Int) (s:LL) (t u v w x y:Int) (z:Bool):Option (Bool):=Zto.S.g [.i a,.i c,.i d,.l e,.i f,.i h,.i j,.i k,.i m,.i n,.b o,.i p,.i q,.i r,.l s,.i t,.i u,.i v,.i w,.i x,.i y,.b z]
theorem Zrg (a b c:Int) (d:LL) (e f g h i j:Int) (k:Bool) (l m n:Int) (o:LL) (p q r s t u:Int) (v:Bool):Zqq a b c d e f g h i j k l m n o p q r s t u v =
 (if ((cop .eql a l)&&((cop .eql b m)&&((cop .eql c n)&&true))) then
 if ((cop .eql e p)&&((cop .eql f q)&&((cop .eql g r)&&((cop .eql h s)&&((cop .eql i t)&&((cop .eql j u)&&((k == v)&&true))))))) then
 (Zxt d o).bind fun w=>
 some (w)
 else
 some (false)
 else
 some (false)):=by kernel_rfl
noncomputable def Zxf:Fn:=⟨38,[4],[],[],0,[],[],Tryz.f197,[.c (.int .i64),.c (.int .i64)],[.c (.bool)],[]⟩
theorem Zyc:Zxf.S.Ok Tryz.prog 197:=Zxf.ok Tryz.func197 (by kernel_rfl) trivial
noncomputable def Zye (a b:Int):Option (Bool):=Zxf.S.g [.i a,.i b]
theorem ZqR (b a:Int):Zye b a =
 (if (cop .eql b 1) then
 if (cop .geq a 6) then
 some ((cop .leq a 40))
 else
 some (false)
 else
 if (cop .eql b 2) then
 if (cop .geq a 12) then
 some ((cop .leq a 40))
 else
 some (false)
 else
 if (cop .eql b 3) then
 some ((cop .eql a 12))
 else
 if (cop .eql b 4) then
 some ((cop .eql a 6))
 else
 if (cop .eql b 5) then
 some ((cop .eql a 10))
 else
 if (cop .eql b 6) then
 some ((cop .eql a 16))
 else
 some (false)):=by kernel_rfl
noncomputable def Zxp:Fn:=⟨8,[2],[],[],0,[],[],Tryz.f199,[.agg hs27],[.agg [.int .i64,.int .i64]],[]⟩
theorem Zzo:Zxp.S.Ok Tryz.prog 199:=Zxp.ok Tryz.func199 (by kernel_rfl) trivial
noncomputable def Zz5 (a c d e f h:Int) (j:Bool):Option (Int×Int):=Zxp.S.g [.i a,.i c,.i d,.i e,.i f,.i h,.b j]
theorem Zqs (c a b d e f:Int) (g:Bool):Zz5 c a b d e f g =
 (some (a,b)):=by kernel_rfl
noncomputable def Zxm:Fn:=⟨32,[2],[],[],0,[],[],Tryz.f198,[.agg [.int .i64,.int .i64]],[.c (.bool)],[]⟩
theorem ZzC:Zxm.S.Ok Tryz.prog 198:=Zxm.ok Tryz.func198 (by kernel_rfl) trivial
noncomputable def Zyl (a b:Int):Option (Bool):=Zxm.S.g [.i a,.i b]
theorem Zrm (b a:Int):Zyl b a =
 (if (cop .lss a 6) then
 some (false)
 else
 if (cop .gtr a 40) then
 some (false)
 else
 if (cop .lss b 0) then
 some (false)
 else
 ZA ((0:Int)≤a)<|
 ZA (((iop .shl .i64 1 a):Int)≠0)<|
 if (cop .eql (iop .rem .i64 b (iop .shl .i64 1 a)) 0) then
 some ((cop .leq b (iop .sub .i64 1099511627776 (iop .shl .i64 1 a))))
 else
 some (false)):=by kernel_rfl
noncomputable def Zw0:Fn:=⟨22,[4],[],[],0,[],[],Tryz.f200,[.c (.int .i64),.c (.int .i64)],[.c (.bool)],[]⟩
theorem Zx1:Zw0.S.Ok Tryz.prog 200:=Zw0.ok Tryz.func200 (by kernel_rfl) trivial
noncomputable def ZxK (a b:Int):Option (Bool):=Zw0.S.g [.i a,.i b]
theorem ZsZ (b a:Int):ZxK b a =
 (if (cop .eql b 32) then
 if (cop .geq a 0) then
 some ((cop .leq a 1))
 else
 some (false)
 else
 if (cop .eql b 39) then
 if (cop .geq a 0) then
 some ((cop .leq a 2))
 else
 some (false)
 else
 some (false)):=by kernel_rfl
noncomputable def Ztf:Fn:=⟨55,[2],[],[],0,[],[],Tryz.f166,[.agg hs27],[.c (.bool)],[(197,Zxf.S),(199,Zxp.S),(198,Zxm.S),(200,Zw0.S)]⟩
theorem ZqV:Ztf.S.Ok Tryz.prog 166:=Ztf.ok Tryz.func166 (by kernel_rfl) ⟨Zyc,⟨Zzo,⟨ZzC,⟨Zx1,trivial⟩⟩⟩⟩
noncomputable def Zxe (a c d e f h:Int) (j:Bool):Option (Bool):=Ztf.S.g [.i a,.i c,.i d,.i e,.i f,.i h,.b j]
theorem Zsq (a g f b c d:Int) (e:Bool):Zxe a g f b c d e =
 ((Zye a f).bind fun i=>
 if (!i) then
 some (false)
 else
 (Zz5 a g f b c d e).bind fun h=>
 (Zyl h.1 h.2).bind fun j=>
 if (!j) then
 some (false)
 else
 if (cop .lss b 0) then
 some (false)
 else
 if (cop .gtr b 7) then
 some (false)
 else
 if (cop .eql a 3) then
 (ZxK c d).bind fun k=>
 if (!k) then
 some (false)
 else
 if (!e) then
 some (true)
 else
 if (cop .eql a 1) then
 some (true)
 else
 some ((cop .eql a 2))
 else
 if (cop .neq c 0) then
 some (false)
 else
 if (cop .neq d 0) then
 some (false)
 else
 if (!e) then
 some (true)
 else
 if (cop .eql a 1) then
 some (true)
 else
 some ((cop .eql a 2))):=by kernel_rfl
noncomputable def ZvG:Fn:=⟨19,[4],[(2,[(0,.c (.slice 3)),(3,.box [.int .i64,.int .i64,.int .i64]),(7,.c (.int .i64)),(8,.c (.int .i64))])],[],0,[],[],Tryz.f201,[.c (.slice 3),.agg [.int .i64,.int .i64,.int .i64]],[.c (.int .i64)],[]⟩
theorem Zzl:ZvG.S.Ok Tryz.prog 201:=ZvG.ok Tryz.func201 (by kernel_rfl) trivial
noncomputable def ZAq (a:LL) (b c d:Int):Option (Int):=ZvG.S.g [.l a,.i b,.i c,.i d]
noncomputable def Zf0 (k:Nat) (a:LL) (b c d e f:Int):Option (Int):=ZvG.lp [0] 0 r0 k [.l a,.i b,.i c,.i d,.i e,.i f]
theorem ZgB (k:Nat) (b:LL) (c d e f a:Int):Zf0 (k+1) b c d e f a =
 (if (cop .lss a f) then
 Zj b a [.int .i64,.int .i64,.int .i64] fun (g:Int×Int×Int)=>
 if ((cop .eql c g.1)&&((cop .eql d g.2.1)&&((cop .eql e g.2.2)&&true))) then
 some (a)
 else
 Zf0 k b c d e f (iop .add .i64 a 1)
 else
 some ((-1))):=by kernel_rfl
theorem ZrW (a:LL) (b c d:Int):ZAq a b c d =
 (Zf0 ZE a b c d (List.length a:Int) 0):=by kernel_rfl
noncomputable def ZwV:Fn:=⟨9,[4],[],[],0,[],[],Tryz.f167,[.c (.slice 3),.agg [.int .i64,.int .i64,.int .i64]],[.c (.bool)],[(201,ZvG.S)]⟩
theorem Zyd:ZwV.S.Ok Tryz.prog 167:=ZwV.ok Tryz.func167 (by kernel_rfl) ⟨Zzl,trivial⟩
noncomputable def ZzV (a:LL) (b c d:Int):Option (Bool):=ZwV.S.g [.l a,.i b,.i c,.i d]
theorem Zrv (a:LL) (b c d:Int):ZzV a b c d =
 ((ZAq a b c d).bind fun e=>
 some ((cop .geq e 0))):=by kernel_rfl
noncomputable def F95:Fn:=⟨47,[2],[(4,[(1,.box hs16),(22,.c (.slice 3)),(23,.c (.int .i64)),(24,.c (.int .i64))])],[],0,[],[],Tryz.f95,[.agg hs16],[.c (.bool)],[(99,F99.S),(166,Ztf.S),(167,ZwV.S)]⟩
theorem Zti:F95.S.Ok Tryz.prog 95:=F95.ok Tryz.func95 (by kernel_rfl) ⟨Zxg,⟨ZqV,⟨Zyd,trivial⟩⟩⟩
noncomputable def g95 (a c d:Int) (e:LL) (f h j k m n:Int) (o:Bool):Option (Bool):=F95.S.g [.i a,.i c,.i d,.l e,.i f,.i h,.i j,.i k,.i m,.i n,.b o]
noncomputable def Zol (k:Nat) (a c d:Int) (e:LL) (f g h j m n:Int) (o:Bool) (p:LL) (q r:Int):Option (Bool):=F95.lp [0,1,0,1,1,0] 0 r0 k [.i a,.i c,.i d,.l e,.i f,.i g,.i h,.i j,.i m,.i n,.b o,.l p,.i q,.i r]
theorem Zjv (k:Nat) (d e f:Int) (c:LL) (i j l m n o:Int) (p:Bool) (g:LL) (h b:Int):Zol (k+1) d e f c i j l m n o p g h b =
 (if (cop .lss b h) then
 Zj g b [.int .i64,.int .i64,.int .i64] fun (a:Int×Int×Int)=>
 (g99 a.1 a.2.1 a.2.2).bind fun q=>
 if (!q) then
 some (false)
 else
 if ((cop .eql a.1 d)&&((cop .eql a.2.1 e)&&((cop .eql a.2.2 f)&&true))) then
 some (false)
 else
 ZA ((0:Int)≤b)<|
 ZA ((b:Int)≤(List.length c:Int))<|
 (ZzV (List.take (Int.toNat b) c) a.1 a.2.1 a.2.2).bind fun r=>
 if r then
 some (false)
 else
 Zol k d e f c i j l m n o p g h (iop .add .i64 b 1)
 else
 some (true)):=by kernel_rfl
theorem Zv8 (b c d:Int) (a:LL) (e f g h i j:Int) (k:Bool):g95 b c d a e f g h i j k =
 ((g99 b c d).bind fun l=>
 if (!l) then
 some (false)
 else
 (Zxe e f g h i j k).bind fun m=>
 if (!m) then
 some (false)
 else
 if (cop .gtr (List.length a:Int) 8) then
 some (false)
 else
 Zol ZE b c d a e f g h i j k a (List.length a:Int) 0):=by kernel_rfl
noncomputable def F90:Fn:=⟨46,[2],[],[],0,[],[],Tryz.f90,[.agg hs6],[.c (.bool)],[(91,F91.S),(89,F89.S),(164,Zto.S),(95,F95.S)]⟩
theorem ZAB:F90.S.Ok Tryz.prog 90:=F90.ok Tryz.func90 (by kernel_rfl) ⟨ZwT,⟨Zwk,⟨Zr3,⟨Zti,trivial⟩⟩⟩⟩
noncomputable def g90 (a c d e f h j k m n o p q r s t u v w x:Int) (y:LL) (z A C D E G:Int) (H:Bool):Option (Bool):=F90.S.g [.i a,.i c,.i d,.i e,.i f,.i h,.i j,.i k,.i m,.i n,.i o,.i p,.i q,.i r,.i s,.i t,.i u,.i v,.i w,.i x,.l y,.i z,.i A,.i C,.i D,.i E,.i G,.b H]
theorem Zt8 (o p q b s t u v w x y z A C D r n c d e:Int) (f:LL) (g h i j k l:Int) (m:Bool):g90 o p q b s t u v w x y z A C D r n c d e f g h i j k l m =
 ((g91 o p q).bind fun E=>
 if (!E) then
 some (false)
 else
 if (cop .lss b 1) then
 some (false)
 else
 if (cop .gtr b 6) then
 some (false)
 else
 (g89 r).bind fun G=>
 if (!G) then
 some (false)
 else
 if (cop .neq n 32) then
 if (cop .neq n 39) then
 some (false)
 else
 if (cop .eql b 1) then
 (Zqq c d e f g h i j k l m 0 0 0 E0 0 0 0 0 0 0 false).bind fun a=>
 some (a)
 else
 (g95 c d e f g h i j k l m).bind fun a=>
 some (a)
 else
 if (cop .eql b 1) then
 (Zqq c d e f g h i j k l m 0 0 0 E0 0 0 0 0 0 0 false).bind fun a=>
 some (a)
 else
 (g95 c d e f g h i j k l m).bind fun a=>
 some (a)):=by kernel_rfl
noncomputable def F92:Fn:=⟨9,[2],[],[],0,[],[],Tryz.f92,[.c (.int .i64)],[.c (.bool)],[]⟩
theorem ZAh:F92.S.Ok Tryz.prog 92:=F92.ok Tryz.func92 (by kernel_rfl) trivial
noncomputable def g92 (a:Int):Option (Bool):=F92.S.g [.i a]
theorem Zuu (a:Int):g92 a =
 (if (cop .geq a 0) then
 some ((cop .leq a 99))
 else
 some (false)):=by kernel_rfl
noncomputable def F96:Fn:=⟨9,[2],[],[],0,[],[],Tryz.f96,[.c (.int .i64)],[.c (.bool)],[]⟩
theorem ZAA:F96.S.Ok Tryz.prog 96:=F96.ok Tryz.func96 (by kernel_rfl) trivial
noncomputable def g96 (a:Int):Option (Bool):=F96.S.g [.i a]
theorem Zvu (a:Int):g96 a =
 (if (cop .geq a 0) then
 some ((cop .lss a 64))
 else
 some (false)):=by kernel_rfl
noncomputable def Zvo:Fn:=⟨19,[4],[(2,[(0,.c (.slice 1)),(1,.c (.int .i64)),(7,.c (.int .i64)),(8,.c (.int .i64))])],[],0,[],[],Tryz.f202,[.c (.slice 1),.c (.int .i64)],[.c (.int .i64)],[]⟩
theorem ZxI:Zvo.S.Ok Tryz.prog 202:=Zvo.ok Tryz.func202 (by kernel_rfl) trivial
noncomputable def ZzG (a:LL) (b:Int):Option (Int):=Zvo.S.g [.l a,.i b]
noncomputable def Zed (k:Nat) (a:LL) (b c d:Int):Option (Int):=Zvo.lp [0] 0 r0 k [.l a,.i b,.i c,.i d]
theorem Zgo (k:Nat) (b:LL) (c d a:Int):Zed (k+1) b c d a =
 (if (cop .lss a d) then
 Zj b a [.int .i64] fun (e:Int)=>
 if (cop .eql c e) then
 some (a)
 else
 Zed k b c d (iop .add .i64 a 1)
 else
 some ((-1))):=by kernel_rfl
theorem ZqL (a:LL) (b:Int):ZzG a b =
 (Zed ZE a b (List.length a:Int) 0):=by kernel_rfl
noncomputable def ZwJ:Fn:=⟨9,[4],[],[],0,[],[],Tryz.f170,[.c (.slice 1),.c (.int .i64)],[.c (.bool)],[(202,Zvo.S)]⟩
theorem ZyC:ZwJ.S.Ok Tryz.prog 170:=ZwJ.ok Tryz.func170 (by kernel_rfl) ⟨ZxI,trivial⟩
noncomputable def Zy1 (a:LL) (b:Int):Option (Bool):=ZwJ.S.g [.l a,.i b]
theorem ZqI (a:LL) (b:Int):Zy1 a b =
 ((ZzG a b).bind fun c=>
 some ((cop .geq c 0))):=by kernel_rfl
noncomputable def ZwY:Fn:=⟨6,[2],[],[],0,[],[],Tryz.f171,[.c (.int .i64)],[.c (.bool)],[(34,F34.S)]⟩
theorem ZzR:ZwY.S.Ok Tryz.prog 171:=ZwY.ok Tryz.func171 (by kernel_rfl) ⟨Zrd,trivial⟩
noncomputable def Zyx (a:Int):Option (Bool):=ZwY.S.g [.i a]
theorem Zsh (a:Int):Zyx a =
 ((g34 a).bind fun b=>
 some ((!b))):=by kernel_rfl
noncomputable def W2:Fn:=⟨19,[4],[(2,[(0,.c (.slice 1)),(1,.clo 171 []),(7,.c (.int .i64)),(8,.c (.int .i64))])],[],0,[],[],Tryz.f169,[.c (.slice 1),.clo 171 []],[.c (.int .i64)],[(171,ZwY.S)]⟩
theorem Zlv:W2.S.Ok Tryz.prog 169:=W2.ok Tryz.func169 (by kernel_rfl) ⟨ZzR,trivial⟩
noncomputable def Ze7 (a:LL):Option (Int):=W2.S.g [.l a]
noncomputable def Kw (k:Nat) (a:LL) (b c:Int):Option (Int):=W2.lp [0] 0 r0 k [.l a,.i b,.i c]
theorem Zaf (k:Nat) (b:LL) (c a:Int):Kw (k+1) b c a =
 (if (cop .lss a c) then
 Zj b a [.int .i64] fun (d:Int)=>
 (Zyx d).bind fun e=>
 if e then
 some (a)
 else
 Kw k b c (iop .add .i64 a 1)
 else
 some ((-1))):=by kernel_rfl
theorem Zh8 (a:LL):Ze7 a =
 (Kw ZE a (List.length a:Int) 0):=by kernel_rfl
noncomputable def ZbZ:Fn:=⟨9,[4],[],[],0,[],[],Tryz.f100,[.c (.slice 1),.clo 171 []],[.c (.bool)],[(169,W2.S)]⟩
theorem ZlZ:ZbZ.S.Ok Tryz.prog 100:=ZbZ.ok Tryz.func100 (by kernel_rfl) ⟨Zlv,trivial⟩
noncomputable def ZfG (a:LL):Option (Bool):=ZbZ.S.g [.l a]
theorem Zid (a:LL):ZfG a =
 ((Ze7 a).bind fun b=>
 some ((cop .geq b 0))):=by kernel_rfl
noncomputable def Zs4:Fn:=⟨45,[2],[(4,[(1,.box [.int .i64,.slice 1,.slice 1]),(22,.c (.slice 1)),(23,.c (.int .i64)),(24,.c (.int .i64))])],[],0,[],[],Tryz.f105,[.agg [.int .i64,.slice 1,.slice 1]],[.c (.bool)],[(33,F33.S),(34,F34.S),(170,ZwJ.S),(100,ZbZ.S)]⟩
theorem Zvt:Zs4.S.Ok Tryz.prog 105:=Zs4.ok Tryz.func105 (by kernel_rfl) ⟨ZxV,⟨Zrd,⟨ZyC,⟨ZlZ,trivial⟩⟩⟩⟩
noncomputable def Zvy (a:Int) (b c:LL):Option (Bool):=Zs4.S.g [.i a,.l b,.l c]
noncomputable def ZcE (k:Nat) (a:Int) (b c d:LL) (e f:Int):Option (Bool):=Zs4.lp [0,1,1,1,0] 0 r0 k [.i a,.l b,.l c,.l d,.i e,.i f]
theorem ZfY (k:Nat) (g:Int) (b d e:LL) (f a:Int):ZcE (k+1) g b d e f a =
 (if (cop .lss a f) then
 Zj e a [.int .i64] fun (c:Int)=>
 (g34 c).bind fun h=>
 if (!h) then
 some (false)
 else
 ZA ((0:Int)≤a)<|
 ZA ((a:Int)≤(List.length b:Int))<|
 (Zy1 (List.take (Int.toNat a) b) c).bind fun i=>
 if i then
 some (false)
 else
 ZcE k g b d e f (iop .add .i64 a 1)
 else
 (ZfG d).bind fun c=>
 some ((!c))):=by kernel_rfl
theorem Zqy (b:Int) (a c:LL):Zvy b a c =
 ((g33 b).bind fun d=>
 if (!d) then
 some (false)
 else
 if (cop .gtr (List.length a:Int) 32) then
 some (false)
 else
 if (cop .gtr (List.length c:Int) 16) then
 some (false)
 else
 ZcE ZE b a c a (List.length a:Int) 0):=by kernel_rfl
noncomputable def ZuZ:Fn:=⟨8,[2],[],[],0,[],[],Tryz.f225,[.agg hs11],[.c (.bool)],[]⟩
theorem Zu0:ZuZ.S.Ok Tryz.prog 225:=ZuZ.ok Tryz.func225 (by kernel_rfl) trivial
noncomputable def ZzL (a c d:Int) (e:LL) (f h j k m n:Int) (o:Bool) (p q r s:Int):Option (Bool):=ZuZ.S.g [.i a,.i c,.i d,.l e,.i f,.i h,.i j,.i k,.i m,.i n,.b o,.i p,.i q,.i r,.i s]
theorem Znf (a b c:Int) (d:LL) (e f g h i j:Int) (k:Bool) (l m n o:Int):ZzL a b c d e f g h i j k l m n o =
 (some (((cop .eql a 0)&&((cop .eql b 0)&&((cop .eql c 0)&&true))))):=by kernel_rfl
noncomputable def Zw5:Fn:=⟨43,[2],[],[],0,[],[],Tryz.f203,[.agg hs11],[.c (.bool)],[(225,ZuZ.S),(164,Zto.S),(95,F95.S),(99,F99.S)]⟩
theorem ZyV:Zw5.S.Ok Tryz.prog 203:=Zw5.ok Tryz.func203 (by kernel_rfl) ⟨Zu0,⟨Zr3,⟨Zti,⟨Zxg,trivial⟩⟩⟩⟩
noncomputable def Zzb (a c d:Int) (e:LL) (f h j k m n:Int) (o:Bool) (p q r s:Int):Option (Bool):=Zw5.S.g [.i a,.i c,.i d,.l e,.i f,.i h,.i j,.i k,.i m,.i n,.b o,.i p,.i q,.i r,.i s]
theorem Zra (d e f:Int) (g:LL) (h i j k l m:Int) (n:Bool) (o b c a:Int):Zzb d e f g h i j k l m n o b c a =
 (if (cop .lss o 0) then
 some (false)
 else
 if (cop .gtr o 1073741824) then
 some (false)
 else
 (ZzL d e f g h i j k l m n o b c a).bind fun q=>
 if q then
 (Zqq d e f g h i j k l m n 0 0 0 E0 0 0 0 0 0 0 false).bind fun p=>
 if p then
 some (((cop .eql b 0)&&((cop .eql c 0)&&((cop .eql a 0)&&true))))
 else
 some (false)
 else
 (g95 d e f g h i j k l m n).bind fun p=>
 if p then
 if ((cop .eql b 0)&&((cop .eql c 0)&&((cop .eql a 0)&&true))) then
 some (true)
 else
 (g99 b c a).bind fun r=>
 if r then
 some ((cop .eql a 0))
 else
 some (false)
 else
 some (false)):=by kernel_rfl
noncomputable def Zwc:Fn:=⟨27,[4,5],[(2,[(3,.box [.int .i64,.int .i64,.int .i64]),(8,.c (.slice 15)),(9,.c (.int .i64)),(10,.c (.int .i64))])],[],0,[],[],Tryz.f204,[.c (.slice 15),.agg [.int .i64,.int .i64,.int .i64]],[.c (.int .i64),.c (.bool)],[(225,ZuZ.S)]⟩
theorem ZyB:Zwc.S.Ok Tryz.prog 204:=Zwc.ok Tryz.func204 (by kernel_rfl) ⟨Zu0,trivial⟩
noncomputable def Zz7 (a:LL) (b c d:Int):Option (Int×Bool):=Zwc.S.g [.l a,.i b,.i c,.i d]
noncomputable def Zcz (k:Nat) (a b c:Int) (d:LL) (e f:Int):Option (Int×Bool):=Zwc.lp [0] 0 r0 k [.i a,.i b,.i c,.l d,.i e,.i f]
theorem ZgV (k:Nat) (c d e:Int) (f:LL) (g b:Int):Zcz (k+1) c d e f g b =
 (if (cop .lss b g) then
 Zj f b hs11 fun (a:Qt21)=>
 (ZzL a.1 a.2.1 a.2.2.1 a.2.2.2.1 a.2.2.2.2.1 a.2.2.2.2.2.1 a.2.2.2.2.2.2.1 a.2.2.2.2.2.2.2.1 a.2.2.2.2.2.2.2.2.1 a.2.2.2.2.2.2.2.2.2.1 a.2.2.2.2.2.2.2.2.2.2.1 a.2.2.2.2.2.2.2.2.2.2.2.1 (d4 (d8 a)).1 (d4 (d8 a)).2.1 (d2 (d4 (d8 a)))).bind fun h=>
 if (!h) then
 if ((cop .eql a.1 c)&&((cop .eql a.2.1 d)&&((cop .eql a.2.2.1 e)&&true))) then
 some (b,true)
 else
 Zcz k c d e f g (iop .add .i64 b 1)
 else
 Zcz k c d e f g (iop .add .i64 b 1)
 else
 some (0,false)):=by kernel_rfl
theorem Zq1 (a:LL) (b c d:Int):Zz7 a b c d =
 (Zcz ZE b c d a (List.length a:Int) 0):=by kernel_rfl
noncomputable def Zuz:Fn:=⟨32,[2],[(4,[(0,.c (.slice 15)),(10,.c (.slice 15)),(11,.c (.int .i64)),(12,.c (.int .i64))])],[],0,[],[],Tryz.f172,[.c (.slice 15)],[.c (.bool)],[(203,Zw5.S),(204,Zwc.S)]⟩
theorem Zx8:Zuz.S.Ok Tryz.prog 172:=Zuz.ok Tryz.func172 (by kernel_rfl) ⟨ZyV,⟨ZyB,trivial⟩⟩
noncomputable def Zxz (a:LL):Option (Bool):=Zuz.S.g [.l a]
noncomputable def Zee (k:Nat) (a b:LL) (c d:Int):Option (Bool):=Zuz.lp [1,0] 0 r0 k [.l a,.l b,.i c,.i d]
theorem Zg2 (k:Nat) (c d:LL) (e b:Int):Zee (k+1) c d e b =
 (if (cop .lss b e) then
 Zj d b hs11 fun (a:Qt21)=>
 (Zzb a.1 a.2.1 a.2.2.1 a.2.2.2.1 a.2.2.2.2.1 a.2.2.2.2.2.1 a.2.2.2.2.2.2.1 a.2.2.2.2.2.2.2.1 a.2.2.2.2.2.2.2.2.1 a.2.2.2.2.2.2.2.2.2.1 a.2.2.2.2.2.2.2.2.2.2.1 a.2.2.2.2.2.2.2.2.2.2.2.1 (d4 (d8 a)).1 (d4 (d8 a)).2.1 (d2 (d4 (d8 a)))).bind fun f=>
 if (!f) then
 some (false)
 else
 ZA ((0:Int)≤b)<|
 ZA ((b:Int)≤(List.length c:Int))<|
 (Zz7 (List.take (Int.toNat b) c) a.1 a.2.1 a.2.2.1).bind fun g=>
 if g.2 then
 some (false)
 else
 Zee k c d e (iop .add .i64 b 1)
 else
 some (true)):=by kernel_rfl
theorem ZsM (a:LL):Zxz a =
 (if (cop .gtr (List.length a:Int) 64) then
 some (false)
 else
 Zee ZE a a (List.length a:Int) 0):=by kernel_rfl
noncomputable def Zw8:Fn:=⟨6,[2],[],[],0,[],[],Tryz.f206,[.agg hs6],[.c (.bool)],[(90,F90.S)]⟩
theorem ZAb:Zw8.S.Ok Tryz.prog 206:=Zw8.ok Tryz.func206 (by kernel_rfl) ⟨ZAB,trivial⟩
noncomputable def ZxS (a c d e f h j k m n o p q r s t u v w x:Int) (y:LL) (z A C D E G:Int) (H:Bool):Option (Bool):=Zw8.S.g [.i a,.i c,.i d,.i e,.i f,.i h,.i j,.i k,.i m,.i n,.i o,.i p,.i q,.i r,.i s,.i t,.i u,.i v,.i w,.i x,.l y,.i z,.i A,.i C,.i D,.i E,.i G,.b H]
theorem ZsE (a b c d e f g h i j k l m n o p q r s t:Int) (u:LL) (v w x y z A:Int) (C:Bool):ZxS a b c d e f g h i j k l m n o p q r s t u v w x y z A C =
 ((g90 a b c d e f g h i j k l m n o p q r s t u v w x y z A C).bind fun D=>
 some ((!D))):=by kernel_rfl
noncomputable def Zar:Fn:=⟨19,[4],[(2,[(0,.c (.slice 28)),(1,.clo 206 []),(7,.c (.int .i64)),(8,.c (.int .i64))])],[],0,[],[],Tryz.f226,[.c (.slice 28),.clo 206 []],[.c (.int .i64)],[(206,Zw8.S)]⟩
theorem Znk:Zar.S.Ok Tryz.prog 226:=Zar.ok Tryz.func226 (by kernel_rfl) ⟨ZAb,trivial⟩
noncomputable def ZeL (a:LL):Option (Int):=Zar.S.g [.l a]
noncomputable def Kt (k:Nat) (a:LL) (b c:Int):Option (Int):=Zar.lp [0] 0 r0 k [.l a,.i b,.i c]
theorem ZaY (k:Nat) (c:LL) (d b:Int):Kt (k+1) c d b =
 (if (cop .lss b d) then
 Zj c b hs6 fun (a:Qt10)=>
 (ZxS a.1 a.2.1 a.2.2.1 a.2.2.2.1 a.2.2.2.2.1 a.2.2.2.2.2.1 a.2.2.2.2.2.2.1 a.2.2.2.2.2.2.2.1 a.2.2.2.2.2.2.2.2.1 a.2.2.2.2.2.2.2.2.2.1 a.2.2.2.2.2.2.2.2.2.2.1 a.2.2.2.2.2.2.2.2.2.2.2.1 (d4 (d8 a)).1 (d4 (d8 a)).2.1 (d2 (d4 (d8 a))).1 (d2 (d4 (d8 a))).2.1 (d16 a).1 (d16 a).2.1 (d2 (d16 a)).1 (d2 (d16 a)).2.1 (d4 (d16 a)).1 (d4 (d16 a)).2.1 (d2 (d4 (d16 a))).1 (d2 (d4 (d16 a))).2.1 (d8 (d16 a)).1 (d8 (d16 a)).2.1 (d2 (d8 (d16 a))).1 (d2 (d8 (d16 a))).2).bind fun e=>
 if e then
 some (b)
 else
 Kt k c d (iop .add .i64 b 1)
 else
 some ((-1))):=by kernel_rfl
theorem ZhZ (a:LL):ZeL a =
 (Kt ZE a (List.length a:Int) 0):=by kernel_rfl
noncomputable def ZbU:Fn:=⟨9,[4],[],[],0,[],[],Tryz.f205,[.c (.slice 28),.clo 206 []],[.c (.bool)],[(226,Zar.S)]⟩
theorem Znt:ZbU.S.Ok Tryz.prog 205:=ZbU.ok Tryz.func205 (by kernel_rfl) ⟨Znk,trivial⟩
noncomputable def Zfd (a:LL):Option (Bool):=ZbU.S.g [.l a]
theorem ZhS (a:LL):Zfd a =
 ((ZeL a).bind fun b=>
 some ((cop .geq b 0))):=by kernel_rfl
noncomputable def Zwp:Fn:=⟨6,[2],[],[],0,[],[],Tryz.f239,[.c (.int .i64)],[.c (.bool)],[]⟩
theorem ZxC:Zwp.S.Ok Tryz.prog 239:=Zwp.ok Tryz.func239 (by kernel_rfl) trivial
noncomputable def ZwE (a:Int):Option (Bool):=Zwp.S.g [.i a]
theorem ZsL (a:Int):ZwE a =
 (some ((cop .neq a a))):=by kernel_rfl
noncomputable def ZwP:Fn:=⟨20,[4],[],[],0,[],[],Tryz.f238,[.c (.int .i64),.c (.int .i64)],[.c (.int .i64)],[(239,Zwp.S)]⟩
theorem ZxR:ZwP.S.Ok Tryz.prog 238:=ZwP.ok Tryz.func238 (by kernel_rfl) ⟨ZxC,trivial⟩
noncomputable def ZtI (a b:Int):Option (Int):=ZwP.S.g [.i a,.i b]
theorem ZrC (a b:Int):ZtI a b =
 ((ZwE a).bind fun d=>
 (ZwE b).bind fun c=>
 if d then
 if c then
 some (0)
 else
 some ((-1))
 else
 if c then
 some (1)
 else
 if (cop .lss a b) then
 some ((-1))
 else
 if (cop .gtr a b) then
 some (1)
 else
 some (0)):=by kernel_rfl
noncomputable def ZtC:Fn:=⟨18,[2],[(3,[(3,.c (.int .i64)),(6,.c (.slice 1)),(7,.c (.int .i64)),(8,.c (.int .i64))])],[],0,[],[],Tryz.f237,[.c (.slice 1)],[.c (.int .i64)],[]⟩
theorem Zx7:ZtC.S.Ok Tryz.prog 237:=ZtC.ok Tryz.func237 (by kernel_rfl) trivial
noncomputable def Zy4 (a:LL):Option (Int):=ZtC.S.g [.l a]
noncomputable def ZmV (k:Nat) (a:Int) (b:LL) (c d:Int):Option (Int):=ZtC.lp [0] 0 r0 k [.i a,.l b,.i c,.i d]
theorem Zaj (k:Nat) (a:Int) (c:LL) (d b:Int):ZmV (k+1) a c d b =
 (if (cop .lss b d) then
 Zj c b [.int .i64] fun (e:Int)=>
 if (cop .neq e a) then
 some (e)
 else
 ZmV k a c d (iop .add .i64 b 1)
 else
 some (a)):=by kernel_rfl
theorem Zrf (a:LL):Zy4 a =
 (ZmV ZE 0 a (List.length a:Int) 0):=by kernel_rfl
noncomputable def ZwB:Fn:=⟨22,[4],[],[],0,[],[],Tryz.f227,[.agg [.int .i64,.int .i64,.int .i64],.agg [.int .i64,.int .i64,.int .i64]],[.c (.int .i64)],[(238,ZwP.S),(237,ZtC.S)]⟩
theorem Zz8:ZwB.S.Ok Tryz.prog 227:=ZwB.ok Tryz.func227 (by kernel_rfl) ⟨ZxR,⟨Zx7,trivial⟩⟩
noncomputable def Zx4 (a b c d e f:Int):Option (Int):=ZwB.S.g [.i a,.i b,.i c,.i d,.i e,.i f]
theorem Zq9 (a b c d e f:Int):Zx4 a b c d e f =
 ((ZtI a d).bind fun g=>
 (ZtI b e).bind fun h=>
 (ZtI c f).bind fun i=>
 (Zy4 (((E0++[[AV.val (.int .i64 g)]])++[[AV.val (.int .i64 h)]])++[[AV.val (.int .i64 i)]])).bind fun j=>
 some (j)):=by kernel_rfl
noncomputable def Zvx:Fn:=⟨9,[4],[],[],0,[],[],Tryz.f208,[.agg [.int .i64,.int .i64,.int .i64],.agg [.int .i64,.int .i64,.int .i64]],[.c (.bool)],[(227,ZwB.S)]⟩
theorem Zt3:Zvx.S.Ok Tryz.prog 208:=Zvx.ok Tryz.func208 (by kernel_rfl) ⟨Zz8,trivial⟩
noncomputable def Zw1 (a b c d e f:Int):Option (Bool):=Zvx.S.g [.i a,.i b,.i c,.i d,.i e,.i f]
theorem ZrX (a b c d e f:Int):Zw1 a b c d e f =
 ((Zx4 a b c d e f).bind fun g=>
 some ((cop .lss g 0))):=by kernel_rfl
noncomputable def ZwO:Fn:=⟨17,[5],[],[2],0,[],[],Tryz.f207,[.c (.int .i64),.c (.int .i64),.box [.slice 28]],[.c (.bool)],[(208,Zvx.S)]⟩
theorem Zzz:ZwO.S.Ok Tryz.prog 207:=ZwO.ok Tryz.func207 (by kernel_rfl) ⟨Zt3,trivial⟩
noncomputable def ZyS (a b:Int) (c:LL):Option (Bool×LL):=ZwO.S.g [.i a,.i b,.l c]
theorem Zr4 (d e:Int) (a:LL):ZyS d e a =
 (Zj a d hs6 fun (b:Qt10)=>
 Zj a e hs6 fun (c:Qt10)=>
 (Zw1 b.1 b.2.1 b.2.2.1 c.1 c.2.1 c.2.2.1).bind fun f=>
 some (f,a)):=by kernel_rfl
noncomputable def WZ:Fn:=⟨17,[4],[(2,[(0,.c (.int .i64)),(1,.clo 207 [17]),(5,.c (.int .i64)),(17,.gbox [.slice 28])])],[],1,[],[],Tryz.f102,[.c (.int .i64),.clo 207 [17],.dead,.dead,.dead,.dead,.dead,.dead,.dead,.dead,.dead,.dead,.dead,.dead,.dead,.dead,.dead,.gbox [.slice 28]],[.c (.bool)],[(207,ZwO.S)]⟩
theorem ZnI:WZ.S.Ok Tryz.prog 102:=WZ.ok Tryz.func102 (by kernel_rfl) ⟨Zzz,trivial⟩
noncomputable def Zff (a:Int) (b:LL):Option (Bool×LL):=WZ.S.g [.i a,.l b]
noncomputable def Kl (k:Nat) (a b:Int) (c:LL):Option (Bool×LL):=WZ.lp [0] 0 r0 k [.i a,.i b,.l c]
theorem WW (k:Nat) (b a:Int) (c:LL):Kl (k+1) b a c =
 (if (cop .lss a b) then
 (ZyS (iop .sub .i64 a 1) a c).bind fun d=>
 if (!d.1) then
 some (false,d.2)
 else
 Kl k b (iop .add .i64 a 1) d.2
 else
 some (true,c)):=by kernel_rfl
theorem Zih (a:Int) (b:LL):Zff a b =
 (Kl ZE a 1 b):=by kernel_rfl
noncomputable def Zw4:Fn:=⟨12,[2],[],[],0,[],[],Tryz.f173,[.c (.slice 28)],[.c (.bool)],[(205,ZbU.S),(102,WZ.S)]⟩
theorem Zx6:Zw4.S.Ok Tryz.prog 173:=Zw4.ok Tryz.func173 (by kernel_rfl) ⟨Znt,⟨ZnI,trivial⟩⟩
noncomputable def Zzy (a:LL):Option (Bool):=Zw4.S.g [.l a]
theorem ZqH (a:LL):Zzy a =
 ((Zfd a).bind fun b=>
 if (!b) then
 (Zff (List.length a:Int) a).bind fun c=>
 some (c.1)
 else
 some (false)):=by kernel_rfl
noncomputable def ZwC:Fn:=⟨13,[2],[],[],0,[],[],Tryz.f210,[.agg [.int .i64,.int .i64,.int .i64,.int .i64]],[.c (.bool)],[(89,F89.S),(91,F91.S)]⟩
theorem Zzg:ZwC.S.Ok Tryz.prog 210:=ZwC.ok Tryz.func210 (by kernel_rfl) ⟨Zwk,⟨ZwT,trivial⟩⟩
noncomputable def ZxZ (a b c d:Int):Option (Bool):=ZwC.S.g [.i a,.i b,.i c,.i d]
theorem ZrO (a b c d:Int):ZxZ a b c d =
 ((g89 a).bind fun e=>
 if (!e) then
 some (true)
 else
 (g91 b c d).bind fun f=>
 some ((!f))):=by kernel_rfl
noncomputable def Zac:Fn:=⟨19,[4],[(2,[(0,.c (.slice 4)),(1,.clo 210 []),(7,.c (.int .i64)),(8,.c (.int .i64))])],[],0,[],[],Tryz.f228,[.c (.slice 4),.clo 210 []],[.c (.int .i64)],[(210,ZwC.S)]⟩
theorem Zlu:Zac.S.Ok Tryz.prog 228:=Zac.ok Tryz.func228 (by kernel_rfl) ⟨Zzg,trivial⟩
noncomputable def ZfO (a:LL):Option (Int):=Zac.S.g [.l a]
noncomputable def Kj (k:Nat) (a:LL) (b c:Int):Option (Int):=Zac.lp [0] 0 r0 k [.l a,.i b,.i c]
theorem Zax (k:Nat) (c:LL) (d a:Int):Kj (k+1) c d a =
 (if (cop .lss a d) then
 Zj c a [.int .i64,.int .i64,.int .i64,.int .i64] fun (b:Int×Int×Int×Int)=>
 (ZxZ b.1 b.2.1 b.2.2.1 b.2.2.2).bind fun e=>
 if e then
 some (a)
 else
 Kj k c d (iop .add .i64 a 1)
 else
 some ((-1))):=by kernel_rfl
theorem ZiF (a:LL):ZfO a =
 (Kj ZE a (List.length a:Int) 0):=by kernel_rfl
noncomputable def ZbS:Fn:=⟨9,[4],[],[],0,[],[],Tryz.f209,[.c (.slice 4),.clo 210 []],[.c (.bool)],[(228,Zac.S)]⟩
theorem Zlw:ZbS.S.Ok Tryz.prog 209:=ZbS.ok Tryz.func209 (by kernel_rfl) ⟨Zlu,trivial⟩
noncomputable def ZeU (a:LL):Option (Bool):=ZbS.S.g [.l a]
theorem ZiL (a:LL):ZeU a =
 ((ZfO a).bind fun b=>
 some ((cop .geq b 0))):=by kernel_rfl
noncomputable def Zxs:Fn:=⟨17,[5],[],[2],0,[],[],Tryz.f211,[.c (.int .i64),.c (.int .i64),.box [.slice 4]],[.c (.bool)],[]⟩
theorem ZyM:Zxs.S.Ok Tryz.prog 211:=Zxs.ok Tryz.func211 (by kernel_rfl) trivial
noncomputable def ZxG (a b:Int) (c:LL):Option (Bool×LL):=Zxs.S.g [.i a,.i b,.l c]
theorem ZrU (b c:Int) (a:LL):ZxG b c a =
 (Zj a b [.int .i64,.int .i64,.int .i64,.int .i64] fun (d:Int×Int×Int×Int)=>
 Zj a c [.int .i64,.int .i64,.int .i64,.int .i64] fun (e:Int×Int×Int×Int)=>
 some ((cop .lss d.1 e.1),a)):=by kernel_rfl
noncomputable def Zai:Fn:=⟨17,[4],[(2,[(0,.c (.int .i64)),(1,.clo 211 [17]),(5,.c (.int .i64)),(17,.gbox [.slice 4])])],[],1,[],[],Tryz.f102,[.c (.int .i64),.clo 211 [17],.dead,.dead,.dead,.dead,.dead,.dead,.dead,.dead,.dead,.dead,.dead,.dead,.dead,.dead,.dead,.gbox [.slice 4]],[.c (.bool)],[(211,Zxs.S)]⟩
theorem ZmS:Zai.S.Ok Tryz.prog 102:=Zai.ok Tryz.func102 (by kernel_rfl) ⟨ZyM,trivial⟩
noncomputable def Ze1 (a:Int) (b:LL):Option (Bool×LL):=Zai.S.g [.i a,.l b]
noncomputable def Ku (k:Nat) (a b:Int) (c:LL):Option (Bool×LL):=Zai.lp [0] 0 r0 k [.i a,.i b,.l c]
theorem ZaF (k:Nat) (b a:Int) (c:LL):Ku (k+1) b a c =
 (if (cop .lss a b) then
 (ZxG (iop .sub .i64 a 1) a c).bind fun d=>
 if (!d.1) then
 some (false,d.2)
 else
 Ku k b (iop .add .i64 a 1) d.2
 else
 some (true,c)):=by kernel_rfl
theorem ZhW (a:Int) (b:LL):Ze1 a b =
 (Ku ZE a 1 b):=by kernel_rfl
noncomputable def Zxi:Fn:=⟨12,[2],[],[],0,[],[],Tryz.f174,[.c (.slice 4)],[.c (.bool)],[(209,ZbS.S),(102,Zai.S)]⟩
theorem Zyp:Zxi.S.Ok Tryz.prog 174:=Zxi.ok Tryz.func174 (by kernel_rfl) ⟨Zlw,⟨ZmS,trivial⟩⟩
noncomputable def ZzT (a:LL):Option (Bool):=Zxi.S.g [.l a]
theorem ZqU (a:LL):ZzT a =
 ((ZeU a).bind fun b=>
 if (!b) then
 (Ze1 (List.length a:Int) a).bind fun c=>
 some (c.1)
 else
 some (false)):=by kernel_rfl
noncomputable def Zwy:Fn:=⟨17,[2],[],[],0,[],[],Tryz.f213,[.agg [.int .i64,.int .i64]],[.c (.bool)],[(92,F92.S)]⟩
theorem Zzw:Zwy.S.Ok Tryz.prog 213:=Zwy.ok Tryz.func213 (by kernel_rfl) ⟨ZAh,trivial⟩
noncomputable def Zyq (a b:Int):Option (Bool):=Zwy.S.g [.i a,.i b]
theorem ZrE (a b:Int):Zyq a b =
 (if (cop .lss a 1) then
 some (true)
 else
 if (cop .gtr a 1073741824) then
 some (true)
 else
 (g92 b).bind fun c=>
 some ((!c))):=by kernel_rfl
noncomputable def ZaB:Fn:=⟨19,[4],[(2,[(0,.c (.slice 2)),(1,.clo 213 []),(7,.c (.int .i64)),(8,.c (.int .i64))])],[],0,[],[],Tryz.f229,[.c (.slice 2),.clo 213 []],[.c (.int .i64)],[(213,Zwy.S)]⟩
theorem ZmG:ZaB.S.Ok Tryz.prog 229:=ZaB.ok Tryz.func229 (by kernel_rfl) ⟨Zzw,trivial⟩
noncomputable def ZfP (a:LL):Option (Int):=ZaB.S.g [.l a]
noncomputable def Ks (k:Nat) (a:LL) (b c:Int):Option (Int):=ZaB.lp [0] 0 r0 k [.l a,.i b,.i c]
theorem W8 (k:Nat) (b:LL) (c a:Int):Ks (k+1) b c a =
 (if (cop .lss a c) then
 Zj b a [.int .i64,.int .i64] fun (d:Int×Int)=>
 (Zyq d.1 d.2).bind fun e=>
 if e then
 some (a)
 else
 Ks k b c (iop .add .i64 a 1)
 else
 some ((-1))):=by kernel_rfl
theorem ZhX (a:LL):ZfP a =
 (Ks ZE a (List.length a:Int) 0):=by kernel_rfl
noncomputable def ZbT:Fn:=⟨9,[4],[],[],0,[],[],Tryz.f212,[.c (.slice 2),.clo 213 []],[.c (.bool)],[(229,ZaB.S)]⟩
theorem ZnK:ZbT.S.Ok Tryz.prog 212:=ZbT.ok Tryz.func212 (by kernel_rfl) ⟨ZmG,trivial⟩
noncomputable def ZeG (a:LL):Option (Bool):=ZbT.S.g [.l a]
theorem Zix (a:LL):ZeG a =
 ((ZfP a).bind fun b=>
 some ((cop .geq b 0))):=by kernel_rfl
noncomputable def Zw2:Fn:=⟨17,[5],[],[2],0,[],[],Tryz.f214,[.c (.int .i64),.c (.int .i64),.box [.slice 2]],[.c (.bool)],[]⟩
theorem ZzM:Zw2.S.Ok Tryz.prog 214:=Zw2.ok Tryz.func214 (by kernel_rfl) trivial
noncomputable def ZzP (a b:Int) (c:LL):Option (Bool×LL):=Zw2.S.g [.i a,.i b,.l c]
theorem ZsO (b c:Int) (a:LL):ZzP b c a =
 (Zj a b [.int .i64,.int .i64] fun (d:Int×Int)=>
 Zj a c [.int .i64,.int .i64] fun (e:Int×Int)=>
 some ((cop .lss d.1 e.1),a)):=by kernel_rfl
noncomputable def ZaW:Fn:=⟨17,[4],[(2,[(0,.c (.int .i64)),(1,.clo 214 [17]),(5,.c (.int .i64)),(17,.gbox [.slice 2])])],[],1,[],[],Tryz.f102,[.c (.int .i64),.clo 214 [17],.dead,.dead,.dead,.dead,.dead,.dead,.dead,.dead,.dead,.dead,.dead,.dead,.dead,.dead,.dead,.gbox [.slice 2]],[.c (.bool)],[(214,Zw2.S)]⟩
theorem ZmR:ZaW.S.Ok Tryz.prog 102:=ZaW.ok Tryz.func102 (by kernel_rfl) ⟨ZzM,trivial⟩
noncomputable def Zfh (a:Int) (b:LL):Option (Bool×LL):=ZaW.S.g [.i a,.l b]
noncomputable def Ke (k:Nat) (a b:Int) (c:LL):Option (Bool×LL):=ZaW.lp [0] 0 r0 k [.i a,.i b,.l c]
theorem ZaI (k:Nat) (b a:Int) (c:LL):Ke (k+1) b a c =
 (if (cop .lss a b) then
 (ZzP (iop .sub .i64 a 1) a c).bind fun d=>
 if (!d.1) then
 some (false,d.2)
 else
 Ke k b (iop .add .i64 a 1) d.2
 else
 some (true,c)):=by kernel_rfl
theorem ZhR (a:Int) (b:LL):Zfh a b =
 (Ke ZE a 1 b):=by kernel_rfl
noncomputable def Zxj:Fn:=⟨12,[2],[],[],0,[],[],Tryz.f175,[.c (.slice 2)],[.c (.bool)],[(212,ZbT.S),(102,ZaW.S)]⟩
theorem ZyQ:Zxj.S.Ok Tryz.prog 175:=Zxj.ok Tryz.func175 (by kernel_rfl) ⟨ZnK,⟨ZmR,trivial⟩⟩
noncomputable def Zz9 (a:LL):Option (Bool):=Zxj.S.g [.l a]
theorem Zsg (a:LL):Zz9 a =
 ((ZeG a).bind fun b=>
 if (!b) then
 (Zfh (List.length a:Int) a).bind fun c=>
 some (c.1)
 else
 some (false)):=by kernel_rfl
noncomputable def ZwR:Fn:=⟨19,[2],[],[],0,[],[],Tryz.f216,[.agg hs12],[.c (.bool)],[(34,F34.S),(96,F96.S),(95,F95.S)]⟩
theorem ZyA:ZwR.S.Ok Tryz.prog 216:=ZwR.ok Tryz.func216 (by kernel_rfl) ⟨Zrd,⟨ZAA,⟨Zti,trivial⟩⟩⟩
noncomputable def ZxH (a c d e f:Int) (h:LL) (j k m n o p:Int) (q:Bool):Option (Bool):=ZwR.S.g [.i a,.i c,.i d,.i e,.i f,.l h,.i j,.i k,.i m,.i n,.i o,.i p,.b q]
theorem ZsW (a b c d e:Int) (f:LL) (g h i j k l:Int) (m:Bool):ZxH a b c d e f g h i j k l m =
 ((g34 a).bind fun n=>
 if (!n) then
 some (true)
 else
 (g96 b).bind fun o=>
 if (!o) then
 some (true)
 else
 (g95 c d e f g h i j k l m).bind fun p=>
 some ((!p))):=by kernel_rfl
noncomputable def ZaV:Fn:=⟨19,[4],[(2,[(0,.c (.slice 13)),(1,.clo 216 []),(7,.c (.int .i64)),(8,.c (.int .i64))])],[],0,[],[],Tryz.f230,[.c (.slice 13),.clo 216 []],[.c (.int .i64)],[(216,ZwR.S)]⟩
theorem Zmh:ZaV.S.Ok Tryz.prog 230:=ZaV.ok Tryz.func230 (by kernel_rfl) ⟨ZyA,trivial⟩
noncomputable def ZfR (a:LL):Option (Int):=ZaV.S.g [.l a]
noncomputable def Kg (k:Nat) (a:LL) (b c:Int):Option (Int):=ZaV.lp [0] 0 r0 k [.l a,.i b,.i c]
theorem Zab (k:Nat) (c:LL) (d b:Int):Kg (k+1) c d b =
 (if (cop .lss b d) then
 Zj c b hs12 fun (a:Qt25)=>
 (ZxH a.1 a.2.1 a.2.2.1 a.2.2.2.1 a.2.2.2.2.1 a.2.2.2.2.2.1 a.2.2.2.2.2.2.1 a.2.2.2.2.2.2.2.1 a.2.2.2.2.2.2.2.2.1 a.2.2.2.2.2.2.2.2.2.1 a.2.2.2.2.2.2.2.2.2.2.1 a.2.2.2.2.2.2.2.2.2.2.2.1 (d4 (d8 a))).bind fun e=>
 if e then
 some (b)
 else
 Kg k c d (iop .add .i64 b 1)
 else
 some ((-1))):=by kernel_rfl
theorem Ziu (a:LL):ZfR a =
 (Kg ZE a (List.length a:Int) 0):=by kernel_rfl
noncomputable def Zb4:Fn:=⟨9,[4],[],[],0,[],[],Tryz.f215,[.c (.slice 13),.clo 216 []],[.c (.bool)],[(230,ZaV.S)]⟩
theorem ZmZ:Zb4.S.Ok Tryz.prog 215:=Zb4.ok Tryz.func215 (by kernel_rfl) ⟨Zmh,trivial⟩
noncomputable def Zfu (a:LL):Option (Bool):=Zb4.S.g [.l a]
theorem ZiN (a:LL):Zfu a =
 ((ZfR a).bind fun b=>
 some ((cop .geq b 0))):=by kernel_rfl
noncomputable def ZwU:Fn:=⟨19,[5],[],[2],0,[],[],Tryz.f217,[.c (.int .i64),.c (.int .i64),.box [.slice 13]],[.c (.bool)],[(208,Zvx.S)]⟩
theorem Zx5:ZwU.S.Ok Tryz.prog 217:=ZwU.ok Tryz.func217 (by kernel_rfl) ⟨Zt3,trivial⟩
noncomputable def ZyP (a b:Int) (c:LL):Option (Bool×LL):=ZwU.S.g [.i a,.i b,.l c]
theorem Zrq (d e:Int) (a:LL):ZyP d e a =
 (Zj a d hs12 fun (b:Qt25)=>
 Zj a e hs12 fun (c:Qt25)=>
 (Zw1 b.2.2.1 b.2.2.2.1 b.2.2.2.2.1 c.2.2.1 c.2.2.2.1 c.2.2.2.2.1).bind fun f=>
 some (f,a)):=by kernel_rfl
noncomputable def W3:Fn:=⟨17,[4],[(2,[(0,.c (.int .i64)),(1,.clo 217 [17]),(5,.c (.int .i64)),(17,.gbox [.slice 13])])],[],1,[],[],Tryz.f102,[.c (.int .i64),.clo 217 [17],.dead,.dead,.dead,.dead,.dead,.dead,.dead,.dead,.dead,.dead,.dead,.dead,.dead,.dead,.dead,.gbox [.slice 13]],[.c (.bool)],[(217,ZwU.S)]⟩
theorem Znb:W3.S.Ok Tryz.prog 102:=W3.ok Tryz.func102 (by kernel_rfl) ⟨Zx5,trivial⟩
noncomputable def ZfQ (a:Int) (b:LL):Option (Bool×LL):=W3.S.g [.i a,.l b]
noncomputable def Ko (k:Nat) (a b:Int) (c:LL):Option (Bool×LL):=W3.lp [0] 0 r0 k [.i a,.i b,.l c]
theorem Zak (k:Nat) (b a:Int) (c:LL):Ko (k+1) b a c =
 (if (cop .lss a b) then
 (ZyP (iop .sub .i64 a 1) a c).bind fun d=>
 if (!d.1) then
 some (false,d.2)
 else
 Ko k b (iop .add .i64 a 1) d.2
 else
 some (true,c)):=by kernel_rfl
theorem Zij (a:Int) (b:LL):ZfQ a b =
 (Ko ZE a 1 b):=by kernel_rfl
noncomputable def ZwF:Fn:=⟨12,[2],[],[],0,[],[],Tryz.f176,[.c (.slice 13)],[.c (.bool)],[(215,Zb4.S),(102,W3.S)]⟩
theorem ZyW:ZwF.S.Ok Tryz.prog 176:=ZwF.ok Tryz.func176 (by kernel_rfl) ⟨ZmZ,⟨Znb,trivial⟩⟩
noncomputable def ZyH (a:LL):Option (Bool):=ZwF.S.g [.l a]
theorem Zqr (a:LL):ZyH a =
 ((Zfu a).bind fun b=>
 if (!b) then
 (ZfQ (List.length a:Int) a).bind fun c=>
 some (c.1)
 else
 some (false)):=by kernel_rfl
noncomputable def ZwI:Fn:=⟨6,[2],[],[],0,[],[],Tryz.f177,[.agg [.int .i64,.int .i64,.int .i64]],[.c (.bool)],[(91,F91.S)]⟩
theorem ZxM:ZwI.S.Ok Tryz.prog 177:=ZwI.ok Tryz.func177 (by kernel_rfl) ⟨ZwT,trivial⟩
noncomputable def ZxD (a b c:Int):Option (Bool):=ZwI.S.g [.i a,.i b,.i c]
theorem Zrr (a b c:Int):ZxD a b c =
 ((g91 a b c).bind fun d=>
 some ((!d))):=by kernel_rfl
noncomputable def W7:Fn:=⟨19,[4],[(2,[(0,.c (.slice 3)),(1,.clo 177 []),(7,.c (.int .i64)),(8,.c (.int .i64))])],[],0,[],[],Tryz.f168,[.c (.slice 3),.clo 177 []],[.c (.int .i64)],[(177,ZwI.S)]⟩
theorem Zmr:W7.S.Ok Tryz.prog 168:=W7.ok Tryz.func168 (by kernel_rfl) ⟨ZxM,trivial⟩
noncomputable def ZeN (a:LL):Option (Int):=W7.S.g [.l a]
noncomputable def Km (k:Nat) (a:LL) (b c:Int):Option (Int):=W7.lp [0] 0 r0 k [.l a,.i b,.i c]
theorem W9 (k:Nat) (b:LL) (c a:Int):Km (k+1) b c a =
 (if (cop .lss a c) then
 Zj b a [.int .i64,.int .i64,.int .i64] fun (d:Int×Int×Int)=>
 (ZxD d.1 d.2.1 d.2.2).bind fun e=>
 if e then
 some (a)
 else
 Km k b c (iop .add .i64 a 1)
 else
 some ((-1))):=by kernel_rfl
theorem ZhY (a:LL):ZeN a =
 (Km ZE a (List.length a:Int) 0):=by kernel_rfl
noncomputable def ZfJ:Fn:=⟨9,[4],[],[],0,[],[],Tryz.f97,[.c (.slice 3),.clo 177 []],[.c (.bool)],[(168,W7.S)]⟩
theorem ZoF:ZfJ.S.Ok Tryz.prog 97:=ZfJ.ok Tryz.func97 (by kernel_rfl) ⟨Zmr,trivial⟩
noncomputable def ZiA (a:LL):Option (Bool):=ZfJ.S.g [.l a]
theorem Zle (a:LL):ZiA a =
 ((ZeN a).bind fun b=>
 some ((cop .geq b 0))):=by kernel_rfl
noncomputable def ZtO:Fn:=⟨32,[2],[],[],0,[],[],Tryz.f106,[.agg hs30],[.c (.bool)],[(172,Zuz.S),(173,Zw4.S),(174,Zxi.S),(175,Zxj.S),(176,ZwF.S),(97,ZfJ.S)]⟩
theorem ZtW:ZtO.S.Ok Tryz.prog 106:=ZtO.ok Tryz.func106 (by kernel_rfl) ⟨Zx8,⟨Zx6,⟨Zyp,⟨ZyQ,⟨ZyW,⟨ZoF,trivial⟩⟩⟩⟩⟩⟩
noncomputable def ZtB (a b c d e f:LL):Option (Bool):=ZtO.S.g [.l a,.l b,.l c,.l d,.l e,.l f]
theorem ZqA (a b c d e f:LL):ZtB a b c d e f =
 ((Zxz a).bind fun g=>
 if g then
 (Zzy b).bind fun h=>
 if h then
 (ZzT c).bind fun i=>
 if i then
 (Zz9 d).bind fun j=>
 if j then
 (ZyH e).bind fun k=>
 if k then
 (ZiA f).bind fun l=>
 some ((!l))
 else
 some (false)
 else
 some (false)
 else
 some (false)
 else
 some (false)
 else
 some (false)):=by kernel_rfl
noncomputable def Zwv:Fn:=⟨26,[2],[],[],0,[],[],Tryz.f104,[.agg hs7],[.c (.bool)],[(34,F34.S),(105,Zs4.S),(106,ZtO.S)]⟩
theorem Zyn:Zwv.S.Ok Tryz.prog 104:=Zwv.ok Tryz.func104 (by kernel_rfl) ⟨Zrd,⟨Zvt,⟨ZtW,trivial⟩⟩⟩
noncomputable def Zz1 (a c:Int) (d e f h j k m n:LL) (o:Bool) (p:Int) (q r s t u v w x:LL):Option (Bool):=Zwv.S.g [.i a,.i c,.l d,.l e,.l f,.l h,.l j,.l k,.l m,.l n,.b o,.i p,.l q,.l r,.l s,.l t,.l u,.l v,.l w,.l x]
theorem Zqn (a b:Int) (c d e f g h i j:LL) (t:Bool) (k:Int) (l m n o p q r s:LL):Zz1 a b c d e f g h i j t k l m n o p q r s =
 ((g34 a).bind fun u=>
 if u then
 (Zvy b c d).bind fun v=>
 if v then
 (ZtB e f g h i j).bind fun w=>
 if w then
 (Zvy k l m).bind fun x=>
 if x then
 (ZtB n o p q r s).bind fun y=>
 some (y)
 else
 some (false)
 else
 some (false)
 else
 some (false)
 else
 some (false)):=by kernel_rfl
noncomputable def F94:Fn:=⟨6,[2],[],[],0,[],[],Tryz.f94,[.agg hs16],[.c (.bool)],[(95,F95.S)]⟩
theorem ZBh:F94.S.Ok Tryz.prog 94:=F94.ok Tryz.func94 (by kernel_rfl) ⟨Zti,trivial⟩
noncomputable def g94 (a c d:Int) (e:LL) (f h j k m n:Int) (o:Bool):Option (Bool):=F94.S.g [.i a,.i c,.i d,.l e,.i f,.i h,.i j,.i k,.i m,.i n,.b o]
theorem Zv7 (a b c:Int) (d:LL) (e f g h i j:Int) (k:Bool):g94 a b c d e f g h i j k =
 ((g95 a b c d e f g h i j k).bind fun l=>
 some ((!l))):=by kernel_rfl
noncomputable def Zcm:Fn:=⟨19,[4],[(2,[(0,.c (.slice 11)),(1,.clo 94 []),(7,.c (.int .i64)),(8,.c (.int .i64))])],[],0,[],[],Tryz.f165,[.c (.slice 11),.clo 94 []],[.c (.int .i64)],[(94,F94.S)]⟩
theorem ZoG:Zcm.S.Ok Tryz.prog 165:=Zcm.ok Tryz.func165 (by kernel_rfl) ⟨ZBh,trivial⟩
noncomputable def Ziy (a:LL):Option (Int):=Zcm.S.g [.l a]
noncomputable def K0 (k:Nat) (a:LL) (b c:Int):Option (Int):=Zcm.lp [0] 0 r0 k [.l a,.i b,.i c]
theorem ZbB (k:Nat) (c:LL) (d b:Int):K0 (k+1) c d b =
 (if (cop .lss b d) then
 Zj c b hs16 fun (a:Qt31)=>
 (g94 a.1 a.2.1 a.2.2.1 a.2.2.2.1 a.2.2.2.2.1 a.2.2.2.2.2.1 a.2.2.2.2.2.2.1 a.2.2.2.2.2.2.2.1 a.2.2.2.2.2.2.2.2.1 a.2.2.2.2.2.2.2.2.2.1 a.2.2.2.2.2.2.2.2.2.2).bind fun e=>
 if e then
 some (b)
 else
 K0 k c d (iop .add .i64 b 1)
 else
 some ((-1))):=by kernel_rfl
theorem ZkW (a:LL):Ziy a =
 (K0 ZE a (List.length a:Int) 0):=by kernel_rfl
noncomputable def ZjI:Fn:=⟨9,[4],[],[],0,[],[],Tryz.f93,[.c (.slice 11),.clo 94 []],[.c (.bool)],[(165,Zcm.S)]⟩
theorem Zsz:ZjI.S.Ok Tryz.prog 93:=ZjI.ok Tryz.func93 (by kernel_rfl) ⟨ZoG,trivial⟩
noncomputable def ZdS (a:LL):Option (Bool):=ZjI.S.g [.l a]
theorem Zm5 (a:LL):ZdS a =
 ((Ziy a).bind fun b=>
 some ((cop .geq b 0))):=by kernel_rfl
noncomputable def F98:Fn:=⟨6,[2],[],[],0,[],[],Tryz.f98,[.agg [.int .i64,.int .i64,.int .i64]],[.c (.bool)],[(99,F99.S)]⟩
theorem ZBz:F98.S.Ok Tryz.prog 98:=F98.ok Tryz.func98 (by kernel_rfl) ⟨Zxg,trivial⟩
noncomputable def g98 (a b c:Int):Option (Bool):=F98.S.g [.i a,.i b,.i c]
theorem Zvp (a b c:Int):g98 a b c =
 ((g99 a b c).bind fun d=>
 some ((!d))):=by kernel_rfl
noncomputable def Zdj:Fn:=⟨19,[4],[(2,[(0,.c (.slice 3)),(1,.clo 98 []),(7,.c (.int .i64)),(8,.c (.int .i64))])],[],0,[],[],Tryz.f168,[.c (.slice 3),.clo 98 []],[.c (.int .i64)],[(98,F98.S)]⟩
theorem Zn0:Zdj.S.Ok Tryz.prog 168:=Zdj.ok Tryz.func168 (by kernel_rfl) ⟨ZBz,trivial⟩
noncomputable def ZhP (a:LL):Option (Int):=Zdj.S.g [.l a]
noncomputable def K2 (k:Nat) (a:LL) (b c:Int):Option (Int):=Zdj.lp [0] 0 r0 k [.l a,.i b,.i c]
theorem ZbE (k:Nat) (b:LL) (c a:Int):K2 (k+1) b c a =
 (if (cop .lss a c) then
 Zj b a [.int .i64,.int .i64,.int .i64] fun (d:Int×Int×Int)=>
 (g98 d.1 d.2.1 d.2.2).bind fun e=>
 if e then
 some (a)
 else
 K2 k b c (iop .add .i64 a 1)
 else
 some ((-1))):=by kernel_rfl
theorem ZkN (a:LL):ZhP a =
 (K2 ZE a (List.length a:Int) 0):=by kernel_rfl
noncomputable def ZjH:Fn:=⟨9,[4],[],[],0,[],[],Tryz.f97,[.c (.slice 3),.clo 98 []],[.c (.bool)],[(168,Zdj.S)]⟩
theorem Zri:ZjH.S.Ok Tryz.prog 97:=ZjH.ok Tryz.func97 (by kernel_rfl) ⟨Zn0,trivial⟩
noncomputable def ZjV (a:LL):Option (Bool):=ZjH.S.g [.l a]
theorem ZmQ (a:LL):ZjV a =
 ((ZhP a).bind fun b=>
 some ((cop .geq b 0))):=by kernel_rfl
noncomputable def ZwM:Fn:=⟨6,[2],[],[],0,[],[],Tryz.f101,[.c (.int .i64)],[.c (.bool)],[(34,F34.S)]⟩
theorem ZzE:ZwM.S.Ok Tryz.prog 101:=ZwM.ok Tryz.func101 (by kernel_rfl) ⟨Zrd,trivial⟩
noncomputable def ZzX (a:Int):Option (Bool):=ZwM.S.g [.i a]
theorem Zrs (a:Int):ZzX a =
 ((g34 a).bind fun b=>
 some ((!b))):=by kernel_rfl
noncomputable def WY:Fn:=⟨19,[4],[(2,[(0,.c (.slice 1)),(1,.clo 101 []),(7,.c (.int .i64)),(8,.c (.int .i64))])],[],0,[],[],Tryz.f169,[.c (.slice 1),.clo 101 []],[.c (.int .i64)],[(101,ZwM.S)]⟩
theorem Zm3:WY.S.Ok Tryz.prog 169:=WY.ok Tryz.func169 (by kernel_rfl) ⟨ZzE,trivial⟩
noncomputable def ZfK (a:LL):Option (Int):=WY.S.g [.l a]
noncomputable def Kp (k:Nat) (a:LL) (b c:Int):Option (Int):=WY.lp [0] 0 r0 k [.l a,.i b,.i c]
theorem ZaK (k:Nat) (b:LL) (c a:Int):Kp (k+1) b c a =
 (if (cop .lss a c) then
 Zj b a [.int .i64] fun (d:Int)=>
 (ZzX d).bind fun e=>
 if e then
 some (a)
 else
 Kp k b c (iop .add .i64 a 1)
 else
 some ((-1))):=by kernel_rfl
theorem Zip (a:LL):ZfK a =
 (Kp ZE a (List.length a:Int) 0):=by kernel_rfl
noncomputable def Zb0:Fn:=⟨9,[4],[],[],0,[],[],Tryz.f100,[.c (.slice 1),.clo 101 []],[.c (.bool)],[(169,WY.S)]⟩
theorem Zml:Zb0.S.Ok Tryz.prog 100:=Zb0.ok Tryz.func100 (by kernel_rfl) ⟨Zm3,trivial⟩
noncomputable def Zcb (a:LL):Option (Bool):=Zb0.S.g [.l a]
theorem Zin (a:LL):Zcb a =
 ((ZfK a).bind fun b=>
 some ((cop .geq b 0))):=by kernel_rfl
noncomputable def Zwu:Fn:=⟨17,[5],[],[2],0,[],[],Tryz.f103,[.c (.int .i64),.c (.int .i64),.box hs0],[.c (.bool)],[]⟩
theorem Zzp:Zwu.S.Ok Tryz.prog 103:=Zwu.ok Tryz.func103 (by kernel_rfl) trivial
noncomputable def ZyT (a c d e f h j k m n o p q:Int) (r:Bool) (s t u v w x y z A C D E G H J K L M N O:Int) (P:LL) (Q R T U V W:Int) (X:Bool) (Y Z aa ab:LL) (ac ad:Int) (ae af ag ah ai aj ak al:LL) (am an:Int) (ao ap aq ar aZ au av aw:LL) (ax:Bool) (ay:Int) (az a0 a1 a2 a3 a4 a5 a6:LL):Option (Qt3):=Zwu.S.g [.i a,.i c,.i d,.i e,.i f,.i h,.i j,.i k,.i m,.i n,.i o,.i p,.i q,.b r,.i s,.i t,.i u,.i v,.i w,.i x,.i y,.i z,.i A,.i C,.i D,.i E,.i G,.i H,.i J,.i K,.i L,.i M,.i N,.i O,.l P,.i Q,.i R,.i T,.i U,.i V,.i W,.b X,.l Y,.l Z,.l aa,.l ab,.i ac,.i ad,.l ae,.l af,.l ag,.l ah,.l ai,.l aj,.l ak,.l al,.i am,.i an,.l ao,.l ap,.l aq,.l ar,.l aZ,.l au,.l av,.l aw,.b ax,.i ay,.l az,.l a0,.l a1,.l a2,.l a3,.l a4,.l a5,.l a6]
theorem Zrc (b c d e f g h i j k l m n:Int) (o:Bool) (p q r s t u v w x y z A C D E G H J K L:Int) (M:LL) (N O P Q R T:Int) (U:Bool) (V W a X:LL) (Y Z:Int) (aa ab ac ad ae af ag ah:LL) (ai aj:Int) (ak al am an ao ap aq ar:LL) (aZ:Bool) (au:Int) (av aw ax ay az a0 a1 a2:LL):ZyT b c d e f g h i j k l m n o p q r s t u v w x y z A C D E G H J K L M N O P Q R T U V W a X Y Z aa ab ac ad ae af ag ah ai aj ak al am an ao ap aq ar aZ au av aw ax ay az a0 a1 a2 =
 (Zj a b [.int .i64] fun (a3:Int)=>
 Zj a c [.int .i64] fun (a4:Int)=>
 some ((cop .lss a3 a4),d,e,f,g,h,i,j,k,l,m,n,o,p,q,r,s,t,u,v,w,x,y,z,A,C,D,E,G,H,J,K,L,M,N,O,P,Q,R,T,U,V,W,a,X,Y,Z,aa,ab,ac,ad,ae,af,ag,ah,ai,aj,ak,al,am,an,ao,ap,aq,ar,aZ,au,av,aw,ax,ay,az,a0,a1,a2)):=by kernel_rfl
noncomputable def ZaT:Fn:=⟨17,[4],[(2,[(0,.c (.int .i64)),(1,.clo 103 [17]),(5,.c (.int .i64)),(17,.gbox hs0)])],[],1,[],[],Tryz.f102,[.c (.int .i64),.clo 103 [17],.dead,.dead,.dead,.dead,.dead,.dead,.dead,.dead,.dead,.dead,.dead,.dead,.dead,.dead,.dead,.gbox hs0],[.c (.bool)],[(103,Zwu.S)]⟩
theorem ZmE:ZaT.S.Ok Tryz.prog 102:=ZaT.ok Tryz.func102 (by kernel_rfl) ⟨Zzp,trivial⟩
noncomputable def ZbO (a c d e f h j k m n o p:Int) (q:Bool) (r s t u v w x y z A C D E G H J K L M N:Int) (O:LL) (P Q R T U V:Int) (W:Bool) (X Y Z aa:LL) (ab ac:Int) (ad ae af ag ah ai aj ak:LL) (al am:Int) (an ao ap aq ar aZ au av:LL) (aw:Bool) (ax:Int) (ay az a0 a1 a2 a3 a4 a5:LL):Option (Qt3):=ZaT.S.g [.i a,.i c,.i d,.i e,.i f,.i h,.i j,.i k,.i m,.i n,.i o,.i p,.b q,.i r,.i s,.i t,.i u,.i v,.i w,.i x,.i y,.i z,.i A,.i C,.i D,.i E,.i G,.i H,.i J,.i K,.i L,.i M,.i N,.l O,.i P,.i Q,.i R,.i T,.i U,.i V,.b W,.l X,.l Y,.l Z,.l aa,.i ab,.i ac,.l ad,.l ae,.l af,.l ag,.l ah,.l ai,.l aj,.l ak,.i al,.i am,.l an,.l ao,.l ap,.l aq,.l ar,.l aZ,.l au,.l av,.b aw,.i ax,.l ay,.l az,.l a0,.l a1,.l a2,.l a3,.l a4,.l a5]
noncomputable def V9 (k:Nat) (a c d e f g h j m n o p q:Int) (r:Bool) (s t u v w x y z A C D E G H J K L M N O:Int) (P:LL) (Q R T U V W:Int) (X:Bool) (Y Z aa ab:LL) (ac ad:Int) (ae af ag ah ai aj ak al:LL) (am an:Int) (ao ap aq ar aZ au av aw:LL) (ax:Bool) (ay:Int) (az a0 a1 a2 a3 a4 a5 a6:LL):Option (Qt3):=ZaT.lp [0] 0 r0 k [.i a,.i c,.i d,.i e,.i f,.i g,.i h,.i j,.i m,.i n,.i o,.i p,.i q,.b r,.i s,.i t,.i u,.i v,.i w,.i x,.i y,.i z,.i A,.i C,.i D,.i E,.i G,.i H,.i J,.i K,.i L,.i M,.i N,.i O,.l P,.i Q,.i R,.i T,.i U,.i V,.i W,.b X,.l Y,.l Z,.l aa,.l ab,.i ac,.i ad,.l ae,.l af,.l ag,.l ah,.l ai,.l aj,.l ak,.l al,.i am,.i an,.l ao,.l ap,.l aq,.l ar,.l aZ,.l au,.l av,.l aw,.b ax,.i ay,.l az,.l a0,.l a1,.l a2,.l a3,.l a4,.l a5,.l a6]
theorem Zaz (k:Nat) (c b d e f g h i j l m n o:Int) (p:Bool) (q r s t u v w x y z A C D E G H J K L M:Int) (N:LL) (O P Q R T U:Int) (V:Bool) (W X Y Z:LL) (aa ab:Int) (ac ad ae af ag ah ai aj:LL) (ak al:Int) (am an ao ap aq ar aZ au:LL) (av:Bool) (aw:Int) (ax ay az a0 a1 a2 a3 a4:LL):V9 (k+1) c b d e f g h i j l m n o p q r s t u v w x y z A C D E G H J K L M N O P Q R T U V W X Y Z aa ab ac ad ae af ag ah ai aj ak al am an ao ap aq ar aZ au av aw ax ay az a0 a1 a2 a3 a4 =
 (if (cop .lss b c) then
 (ZyT (iop .sub .i64 b 1) b d e f g h i j l m n o p q r s t u v w x y z A C D E G H J K L M N O P Q R T U V W X Y Z aa ab ac ad ae af ag ah ai aj ak al am an ao ap aq ar aZ au av aw ax ay az a0 a1 a2 a3 a4).bind fun a=>
 if (!a.1) then
 some (false,a.2.1,a.2.2.1,a.2.2.2.1,a.2.2.2.2.1,a.2.2.2.2.2.1,a.2.2.2.2.2.2.1,a.2.2.2.2.2.2.2.1,a.2.2.2.2.2.2.2.2.1,a.2.2.2.2.2.2.2.2.2.1,a.2.2.2.2.2.2.2.2.2.2.1,a.2.2.2.2.2.2.2.2.2.2.2.1,(d4 (d8 a)).1,(d4 (d8 a)).2.1,(d2 (d4 (d8 a))).1,(d2 (d4 (d8 a))).2.1,(d16 a).1,(d16 a).2.1,(d2 (d16 a)).1,(d2 (d16 a)).2.1,(d4 (d16 a)).1,(d4 (d16 a)).2.1,(d2 (d4 (d16 a))).1,(d2 (d4 (d16 a))).2.1,(d8 (d16 a)).1,(d8 (d16 a)).2.1,(d2 (d8 (d16 a))).1,(d2 (d8 (d16 a))).2.1,(d4 (d8 (d16 a))).1,(d4 (d8 (d16 a))).2.1,(d2 (d4 (d8 (d16 a)))).1,(d2 (d4 (d8 (d16 a)))).2.1,(d16 (d16 a)).1,(d16 (d16 a)).2.1,(d2 (d16 (d16 a))).1,(d2 (d16 (d16 a))).2.1,(d4 (d16 (d16 a))).1,(d4 (d16 (d16 a))).2.1,(d2 (d4 (d16 (d16 a)))).1,(d2 (d4 (d16 (d16 a)))).2.1,(d8 (d16 (d16 a))).1,(d8 (d16 (d16 a))).2.1,(d2 (d8 (d16 (d16 a)))).1,(d2 (d8 (d16 (d16 a)))).2.1,(d4 (d8 (d16 (d16 a)))).1,(d4 (d8 (d16 (d16 a)))).2.1,(d2 (d4 (d8 (d16 (d16 a))))).1,(d2 (d4 (d8 (d16 (d16 a))))).2.1,(d16 (d16 (d16 a))).1,(d16 (d16 (d16 a))).2.1,(d2 (d16 (d16 (d16 a)))).1,(d2 (d16 (d16 (d16 a)))).2.1,(d4 (d16 (d16 (d16 a)))).1,(d4 (d16 (d16 (d16 a)))).2.1,(d2 (d4 (d16 (d16 (d16 a))))).1,(d2 (d4 (d16 (d16 (d16 a))))).2.1,(d8 (d16 (d16 (d16 a)))).1,(d8 (d16 (d16 (d16 a)))).2.1,(d2 (d8 (d16 (d16 (d16 a))))).1,(d2 (d8 (d16 (d16 (d16 a))))).2.1,(d4 (d8 (d16 (d16 (d16 a))))).1,(d4 (d8 (d16 (d16 (d16 a))))).2.1,(d2 (d4 (d8 (d16 (d16 (d16 a)))))).1,(d2 (d4 (d8 (d16 (d16 (d16 a)))))).2.1,(d16 (d16 (d16 (d16 a)))).1,(d16 (d16 (d16 (d16 a)))).2.1,(d2 (d16 (d16 (d16 (d16 a))))).1,(d2 (d16 (d16 (d16 (d16 a))))).2.1,(d4 (d16 (d16 (d16 (d16 a))))).1,(d4 (d16 (d16 (d16 (d16 a))))).2.1,(d2 (d4 (d16 (d16 (d16 (d16 a)))))).1,(d2 (d4 (d16 (d16 (d16 (d16 a)))))).2.1,(d8 (d16 (d16 (d16 (d16 a))))).1,(d8 (d16 (d16 (d16 (d16 a))))).2.1,(d2 (d8 (d16 (d16 (d16 (d16 a)))))))
 else
 V9 k c (iop .add .i64 b 1) a.2.1 a.2.2.1 a.2.2.2.1 a.2.2.2.2.1 a.2.2.2.2.2.1 a.2.2.2.2.2.2.1 a.2.2.2.2.2.2.2.1 a.2.2.2.2.2.2.2.2.1 a.2.2.2.2.2.2.2.2.2.1 a.2.2.2.2.2.2.2.2.2.2.1 a.2.2.2.2.2.2.2.2.2.2.2.1 (d4 (d8 a)).1 (d4 (d8 a)).2.1 (d2 (d4 (d8 a))).1 (d2 (d4 (d8 a))).2.1 (d16 a).1 (d16 a).2.1 (d2 (d16 a)).1 (d2 (d16 a)).2.1 (d4 (d16 a)).1 (d4 (d16 a)).2.1 (d2 (d4 (d16 a))).1 (d2 (d4 (d16 a))).2.1 (d8 (d16 a)).1 (d8 (d16 a)).2.1 (d2 (d8 (d16 a))).1 (d2 (d8 (d16 a))).2.1 (d4 (d8 (d16 a))).1 (d4 (d8 (d16 a))).2.1 (d2 (d4 (d8 (d16 a)))).1 (d2 (d4 (d8 (d16 a)))).2.1 (d16 (d16 a)).1 (d16 (d16 a)).2.1 (d2 (d16 (d16 a))).1 (d2 (d16 (d16 a))).2.1 (d4 (d16 (d16 a))).1 (d4 (d16 (d16 a))).2.1 (d2 (d4 (d16 (d16 a)))).1 (d2 (d4 (d16 (d16 a)))).2.1 (d8 (d16 (d16 a))).1 (d8 (d16 (d16 a))).2.1 (d2 (d8 (d16 (d16 a)))).1 (d2 (d8 (d16 (d16 a)))).2.1 (d4 (d8 (d16 (d16 a)))).1 (d4 (d8 (d16 (d16 a)))).2.1 (d2 (d4 (d8 (d16 (d16 a))))).1 (d2 (d4 (d8 (d16 (d16 a))))).2.1 (d16 (d16 (d16 a))).1 (d16 (d16 (d16 a))).2.1 (d2 (d16 (d16 (d16 a)))).1 (d2 (d16 (d16 (d16 a)))).2.1 (d4 (d16 (d16 (d16 a)))).1 (d4 (d16 (d16 (d16 a)))).2.1 (d2 (d4 (d16 (d16 (d16 a))))).1 (d2 (d4 (d16 (d16 (d16 a))))).2.1 (d8 (d16 (d16 (d16 a)))).1 (d8 (d16 (d16 (d16 a)))).2.1 (d2 (d8 (d16 (d16 (d16 a))))).1 (d2 (d8 (d16 (d16 (d16 a))))).2.1 (d4 (d8 (d16 (d16 (d16 a))))).1 (d4 (d8 (d16 (d16 (d16 a))))).2.1 (d2 (d4 (d8 (d16 (d16 (d16 a)))))).1 (d2 (d4 (d8 (d16 (d16 (d16 a)))))).2.1 (d16 (d16 (d16 (d16 a)))).1 (d16 (d16 (d16 (d16 a)))).2.1 (d2 (d16 (d16 (d16 (d16 a))))).1 (d2 (d16 (d16 (d16 (d16 a))))).2.1 (d4 (d16 (d16 (d16 (d16 a))))).1 (d4 (d16 (d16 (d16 (d16 a))))).2.1 (d2 (d4 (d16 (d16 (d16 (d16 a)))))).1 (d2 (d4 (d16 (d16 (d16 (d16 a)))))).2.1 (d8 (d16 (d16 (d16 (d16 a))))).1 (d8 (d16 (d16 (d16 (d16 a))))).2.1 (d2 (d8 (d16 (d16 (d16 (d16 a))))))
 else
 some (true,d,e,f,g,h,i,j,l,m,n,o,p,q,r,s,t,u,v,w,x,y,z,A,C,D,E,G,H,J,K,L,M,N,O,P,Q,R,T,U,V,W,X,Y,Z,aa,ab,ac,ad,ae,af,ag,ah,ai,aj,ak,al,am,an,ao,ap,aq,ar,aZ,au,av,aw,ax,ay,az,a0,a1,a2,a3,a4)):=by kernel_rfl
theorem ZhO (a b c d e f g h i j k l:Int) (m:Bool) (n o p q r s t u v w x y z A C D E G H J:Int) (K:LL) (L M N O P Q:Int) (R:Bool) (T U V W:LL) (X Y:Int) (Z aa ab ac ad ae af ag:LL) (ah ai:Int) (aj ak al am an ao ap aq:LL) (ar:Bool) (aZ:Int) (au av aw ax ay az a0 a1:LL):ZbO a b c d e f g h i j k l m n o p q r s t u v w x y z A C D E G H J K L M N O P Q R T U V W X Y Z aa ab ac ad ae af ag ah ai aj ak al am an ao ap aq ar aZ au av aw ax ay az a0 a1 =
 (V9 ZE a 1 b c d e f g h i j k l m n o p q r s t u v w x y z A C D E G H J K L M N O P Q R T U V W X Y Z aa ab ac ad ae af ag ah ai aj ak al am an ao ap aq ar aZ au av aw ax ay az a0 a1):=by kernel_rfl
noncomputable def Zwl:Fn:=⟨13,[2],[],[],0,[],[],Tryz.f108,[.agg [.int .i64,.int .i64]],[.c (.bool)],[(89,F89.S),(34,F34.S)]⟩
theorem ZAd:Zwl.S.Ok Tryz.prog 108:=Zwl.ok Tryz.func108 (by kernel_rfl) ⟨Zwk,⟨Zrd,trivial⟩⟩
noncomputable def ZyE (a b:Int):Option (Bool):=Zwl.S.g [.i a,.i b]
theorem Zsx (a b:Int):ZyE a b =
 ((g89 a).bind fun c=>
 if (!c) then
 some (true)
 else
 (g34 b).bind fun d=>
 some ((!d))):=by kernel_rfl
noncomputable def Zao:Fn:=⟨19,[4],[(2,[(0,.c (.slice 2)),(1,.clo 108 []),(7,.c (.int .i64)),(8,.c (.int .i64))])],[],0,[],[],Tryz.f178,[.c (.slice 2),.clo 108 []],[.c (.int .i64)],[(108,Zwl.S)]⟩
theorem ZlH:Zao.S.Ok Tryz.prog 178:=Zao.ok Tryz.func178 (by kernel_rfl) ⟨ZAd,trivial⟩
noncomputable def Zfx (a:LL):Option (Int):=Zao.S.g [.l a]
noncomputable def Kq (k:Nat) (a:LL) (b c:Int):Option (Int):=Zao.lp [0] 0 r0 k [.l a,.i b,.i c]
theorem Zan (k:Nat) (b:LL) (c a:Int):Kq (k+1) b c a =
 (if (cop .lss a c) then
 Zj b a [.int .i64,.int .i64] fun (d:Int×Int)=>
 (ZyE d.1 d.2).bind fun e=>
 if e then
 some (a)
 else
 Kq k b c (iop .add .i64 a 1)
 else
 some ((-1))):=by kernel_rfl
theorem Ziv (a:LL):Zfx a =
 (Kq ZE a (List.length a:Int) 0):=by kernel_rfl
noncomputable def ZbV:Fn:=⟨9,[4],[],[],0,[],[],Tryz.f107,[.c (.slice 2),.clo 108 []],[.c (.bool)],[(178,Zao.S)]⟩
theorem Zmg:ZbV.S.Ok Tryz.prog 107:=ZbV.ok Tryz.func107 (by kernel_rfl) ⟨ZlH,trivial⟩
noncomputable def Zb7 (a:LL):Option (Bool):=ZbV.S.g [.l a]
theorem ZhI (a:LL):Zb7 a =
 ((Zfx a).bind fun b=>
 some ((cop .geq b 0))):=by kernel_rfl
noncomputable def F35:Fn:=⟨114,[4],[],[],0,[],[],Tryz.f35,[.agg hs0,.c (.int .i64)],[.c (.bool)],[(89,F89.S),(90,F90.S),(91,F91.S),(92,F92.S),(93,ZjI.S),(96,F96.S),(97,ZjH.S),(33,F33.S),(100,Zb0.S),(102,ZaT.S),(104,Zwv.S),(105,Zs4.S),(106,ZtO.S),(107,ZbV.S)]⟩
theorem ZBi:F35.S.Ok Tryz.prog 35:=F35.ok Tryz.func35 (by kernel_rfl) ⟨Zwk,⟨ZAB,⟨ZwT,⟨ZAh,⟨Zsz,⟨ZAA,⟨Zri,⟨ZxV,⟨Zml,⟨ZmE,⟨Zyn,⟨Zvt,⟨ZtW,⟨Zmg,trivial⟩⟩⟩⟩⟩⟩⟩⟩⟩⟩⟩⟩⟩⟩
noncomputable def g35 (a c d e f h j k m n o:Int) (p:Bool) (q r s t u v w x y z A C D E G H J K L M:Int) (N:LL) (O P Q R T U:Int) (V:Bool) (W X Y Z:LL) (aa ab:Int) (ac ad ae af ag ah ai aj:LL) (ak al:Int) (am an ao ap aq ar aZ au:LL) (av:Bool) (aw:Int) (ax ay az a0 a1 a2 a3 a4:LL) (a5:Int):Option (Bool):=F35.S.g [.i a,.i c,.i d,.i e,.i f,.i h,.i j,.i k,.i m,.i n,.i o,.b p,.i q,.i r,.i s,.i t,.i u,.i v,.i w,.i x,.i y,.i z,.i A,.i C,.i D,.i E,.i G,.i H,.i J,.i K,.i L,.i M,.l N,.i O,.i P,.i Q,.i R,.i T,.i U,.b V,.l W,.l X,.l Y,.l Z,.i aa,.i ab,.l ac,.l ad,.l ae,.l af,.l ag,.l ah,.l ai,.l aj,.i ak,.i al,.l am,.l an,.l ao,.l ap,.l aq,.l ar,.l aZ,.l au,.b av,.i aw,.l ax,.l ay,.l az,.l a0,.l a1,.l a2,.l a3,.l a4,.i a5]
theorem KD (g x1 x2 x3 h i j k l m n:Int) (a2:Bool) (o p q r s t u v w x y z A C D E G H J K:Int) (L:LL) (M N O P Q R:Int) (T:Bool) (d c e f:LL) (U V:Int) (W X Y Z aa ab ac ad:LL) (ae af:Int) (ag ah ai aj ak al am an:LL) (ao:Bool) (ap:Int) (aq ar aZ au av aw ax ay:LL) (b:Int):g35 g x1 x2 x3 h i j k l m n a2 o p q r s t u v w x y z A C D E G H J K L M N O P Q R T d c e f U V W X Y Z aa ab ac ad ae af ag ah ai aj ak al am an ao ap aq ar aZ au av aw ax ay b =
 (if (cop .eql b 0) then
 (g89 i).bind fun a=>
 some (a)
 else
 if (cop .eql b 1) then
 (g90 o p q r s t u v w x y z A C D E G H J K L M N O P Q R T).bind fun a=>
 some (a)
 else
 if (cop .eql b 2) then
 (g91 k l m).bind fun a=>
 some (a)
 else
 if (cop .eql b 3) then
 (g92 n).bind fun a=>
 some (a)
 else
 if (cop .eql b 5) then
 if (cop .gtr (List.length c:Int) 8) then
 some (false)
 else
 if (cop .eql g 4) then
 if (cop .neq (List.length c:Int) 1) then
 some (false)
 else
 (ZdS c).bind fun a=>
 some ((!a))
 else
 (ZdS c).bind fun a=>
 some ((!a))
 else
 if (cop .eql b 6) then
 (g96 j).bind fun a=>
 some (a)
 else
 if (cop .eql b 7) then
 if (cop .leq (List.length d:Int) 64) then
 (ZjV d).bind fun a=>
 some ((!a))
 else
 some (false)
 else
 if (cop .eql b 8) then
 (g33 h).bind fun a=>
 some (a)
 else
 if (cop .eql b 9) then
 (Zcb e).bind fun a=>
 if (!a) then
 (ZbO (List.length e:Int) g x1 x2 x3 h i j k l m n a2 o p q r s t u v w x y z A C D E G H J K L M N O P Q R T d c e f U V W X Y Z aa ab ac ad ae af ag ah ai aj ak al am an ao ap aq ar aZ au av aw ax ay).bind fun a3=>
 some (a3.1)
 else
 some (false)
 else
 if (cop .eql b 10) then
 (Zz1 ae af ag ah ai aj ak al am an ao ap aq ar aZ au av aw ax ay).bind fun a=>
 some (a)
 else
 if (cop .eql b 11) then
 (g33 U).bind fun a=>
 some (a)
 else
 if (cop .eql b 12) then
 (Zvy V W X).bind fun a=>
 some (a)
 else
 if (cop .eql b 13) then
 (ZtB Y Z aa ab ac ad).bind fun a=>
 some (a)
 else
 if (cop .eql b 14) then
 if (cop .leq (List.length f:Int) 16) then
 (Zb7 f).bind fun a=>
 some ((!a))
 else
 some (false)
 else
 some (true)):=by kernel_rfl
noncomputable def F36:Fn:=⟨85,[],[],[0],0,[],[],Tryz.f36,[.box hs0,.c (.int .i64)],[],[]⟩
theorem ZB7:F36.S.Ok Tryz.prog 36:=F36.ok Tryz.func36 (by kernel_rfl) trivial
noncomputable def g36 (a c d e f h j k m n o:Int) (p:Bool) (q r s t u v w x y z A C D E G H J K L M:Int) (N:LL) (O P Q R T U:Int) (V:Bool) (W X Y Z:LL) (aa ab:Int) (ac ad ae af ag ah ai aj:LL) (ak al:Int) (am an ao ap aq ar aZ au:LL) (av:Bool) (aw:Int) (ax ay az a0 a1 a2 a3 a4:LL) (a5:Int):Option (Qt5):=F36.S.g [.i a,.i c,.i d,.i e,.i f,.i h,.i j,.i k,.i m,.i n,.i o,.b p,.i q,.i r,.i s,.i t,.i u,.i v,.i w,.i x,.i y,.i z,.i A,.i C,.i D,.i E,.i G,.i H,.i J,.i K,.i L,.i M,.l N,.i O,.i P,.i Q,.i R,.i T,.i U,.b V,.l W,.l X,.l Y,.l Z,.i aa,.i ab,.l ac,.l ad,.l ae,.l af,.l ag,.l ah,.l ai,.l aj,.i ak,.i al,.l am,.l an,.l ao,.l ap,.l aq,.l ar,.l aZ,.l au,.b av,.i aw,.l ax,.l ay,.l az,.l a0,.l a1,.l a2,.l a3,.l a4,.i a5]
theorem KA (a b c d e f g h i j k:Int) (l:Bool) (m n o p q r s t u v w x y z A C D E G H:Int) (J:LL) (K L M N O P:Int) (Q:Bool) (R T U V:LL) (W X:Int) (Y Z aa ab ac ad ae af:LL) (ag ah:Int) (ai aj ak al am an ao ap:LL) (aq:Bool) (ar:Int) (aZ au av aw ax ay az a0:LL) (a1:Int):g36 a b c d e f g h i j k l m n o p q r s t u v w x y z A C D E G H J K L M N O P Q R T U V W X Y Z aa ab ac ad ae af ag ah ai aj ak al am an ao ap aq ar aZ au av aw ax ay az a0 a1 =
 (if (cop .eql a1 0) then
 some (a,b,c,d,e,0,g,h,i,j,k,l,m,n,o,p,q,r,s,t,u,v,w,x,y,z,A,C,D,E,G,H,J,K,L,M,N,O,P,Q,R,T,U,V,W,X,Y,Z,aa,ab,ac,ad,ae,af,ag,ah,ai,aj,ak,al,am,an,ao,ap,aq,ar,aZ,au,av,aw,ax,ay,az,a0)
 else
 if (cop .eql a1 1) then
 some (a,b,c,d,e,f,g,h,i,j,k,l,0,0,0,0,0,0,0,0,0,0,0,0,0,0,0,0,0,0,0,0,E0,0,0,0,0,0,0,false,R,T,U,V,W,X,Y,Z,aa,ab,ac,ad,ae,af,ag,ah,ai,aj,ak,al,am,an,ao,ap,aq,ar,aZ,au,av,aw,ax,ay,az,a0)
 else
 if (cop .eql a1 2) then
 some (a,b,c,d,e,f,g,0,0,0,k,l,m,n,o,p,q,r,s,t,u,v,w,x,y,z,A,C,D,E,G,H,J,K,L,M,N,O,P,Q,R,T,U,V,W,X,Y,Z,aa,ab,ac,ad,ae,af,ag,ah,ai,aj,ak,al,am,an,ao,ap,aq,ar,aZ,au,av,aw,ax,ay,az,a0)
 else
 if (cop .eql a1 3) then
 some (a,b,c,d,e,f,g,h,i,j,0,l,m,n,o,p,q,r,s,t,u,v,w,x,y,z,A,C,D,E,G,H,J,K,L,M,N,O,P,Q,R,T,U,V,W,X,Y,Z,aa,ab,ac,ad,ae,af,ag,ah,ai,aj,ak,al,am,an,ao,ap,aq,ar,aZ,au,av,aw,ax,ay,az,a0)
 else
 if (cop .eql a1 4) then
 some (a,b,c,d,e,f,g,h,i,j,k,false,m,n,o,p,q,r,s,t,u,v,w,x,y,z,A,C,D,E,G,H,J,K,L,M,N,O,P,Q,R,T,U,V,W,X,Y,Z,aa,ab,ac,ad,ae,af,ag,ah,ai,aj,ak,al,am,an,ao,ap,aq,ar,aZ,au,av,aw,ax,ay,az,a0)
 else
 if (cop .eql a1 5) then
 some (a,b,c,d,e,f,g,h,i,j,k,l,m,n,o,p,q,r,s,t,u,v,w,x,y,z,A,C,D,E,G,H,J,K,L,M,N,O,P,Q,R,E0,U,V,W,X,Y,Z,aa,ab,ac,ad,ae,af,ag,ah,ai,aj,ak,al,am,an,ao,ap,aq,ar,aZ,au,av,aw,ax,ay,az,a0)
 else
 if (cop .eql a1 6) then
 some (a,b,c,d,e,f,0,h,i,j,k,l,m,n,o,p,q,r,s,t,u,v,w,x,y,z,A,C,D,E,G,H,J,K,L,M,N,O,P,Q,R,T,U,V,W,X,Y,Z,aa,ab,ac,ad,ae,af,ag,ah,ai,aj,ak,al,am,an,ao,ap,aq,ar,aZ,au,av,aw,ax,ay,az,a0)
 else
 if (cop .eql a1 7) then
 some (a,b,c,d,e,f,g,h,i,j,k,l,m,n,o,p,q,r,s,t,u,v,w,x,y,z,A,C,D,E,G,H,J,K,L,M,N,O,P,Q,E0,T,U,V,W,X,Y,Z,aa,ab,ac,ad,ae,af,ag,ah,ai,aj,ak,al,am,an,ao,ap,aq,ar,aZ,au,av,aw,ax,ay,az,a0)
 else
 if (cop .eql a1 8) then
 some (a,b,c,d,0,f,g,h,i,j,k,l,m,n,o,p,q,r,s,t,u,v,w,x,y,z,A,C,D,E,G,H,J,K,L,M,N,O,P,Q,R,T,U,V,W,X,Y,Z,aa,ab,ac,ad,ae,af,ag,ah,ai,aj,ak,al,am,an,ao,ap,aq,ar,aZ,au,av,aw,ax,ay,az,a0)
 else
 if (cop .eql a1 9) then
 some (a,b,c,d,e,f,g,h,i,j,k,l,m,n,o,p,q,r,s,t,u,v,w,x,y,z,A,C,D,E,G,H,J,K,L,M,N,O,P,Q,R,T,E0,V,W,X,Y,Z,aa,ab,ac,ad,ae,af,ag,ah,ai,aj,ak,al,am,an,ao,ap,aq,ar,aZ,au,av,aw,ax,ay,az,a0)
 else
 if (cop .eql a1 10) then
 some (a,b,c,d,e,f,g,h,i,j,k,l,m,n,o,p,q,r,s,t,u,v,w,x,y,z,A,C,D,E,G,H,J,K,L,M,N,O,P,Q,R,T,U,V,W,X,Y,Z,aa,ab,ac,ad,ae,af,0,0,E0,E0,E0,E0,E0,E0,E0,E0,false,0,E0,E0,E0,E0,E0,E0,E0,E0)
 else
 if (cop .eql a1 11) then
 some (a,b,c,d,e,f,g,h,i,j,k,l,m,n,o,p,q,r,s,t,u,v,w,x,y,z,A,C,D,E,G,H,J,K,L,M,N,O,P,Q,R,T,U,V,0,X,Y,Z,aa,ab,ac,ad,ae,af,ag,ah,ai,aj,ak,al,am,an,ao,ap,aq,ar,aZ,au,av,aw,ax,ay,az,a0)
 else
 if (cop .eql a1 12) then
 some (a,b,c,d,e,f,g,h,i,j,k,l,m,n,o,p,q,r,s,t,u,v,w,x,y,z,A,C,D,E,G,H,J,K,L,M,N,O,P,Q,R,T,U,V,W,0,E0,E0,aa,ab,ac,ad,ae,af,ag,ah,ai,aj,ak,al,am,an,ao,ap,aq,ar,aZ,au,av,aw,ax,ay,az,a0)
 else
 if (cop .eql a1 13) then
 some (a,b,c,d,e,f,g,h,i,j,k,l,m,n,o,p,q,r,s,t,u,v,w,x,y,z,A,C,D,E,G,H,J,K,L,M,N,O,P,Q,R,T,U,V,W,X,Y,Z,E0,E0,E0,E0,E0,E0,ag,ah,ai,aj,ak,al,am,an,ao,ap,aq,ar,aZ,au,av,aw,ax,ay,az,a0)
 else
 if (cop .eql a1 14) then
 some (a,b,c,d,e,f,g,h,i,j,k,l,m,n,o,p,q,r,s,t,u,v,w,x,y,z,A,C,D,E,G,H,J,K,L,M,N,O,P,Q,R,T,U,E0,W,X,Y,Z,aa,ab,ac,ad,ae,af,ag,ah,ai,aj,ak,al,am,an,ao,ap,aq,ar,aZ,au,av,aw,ax,ay,az,a0)
 else
 some (a,b,c,d,e,f,g,h,i,j,k,l,m,n,o,p,q,r,s,t,u,v,w,x,y,z,A,C,D,E,G,H,J,K,L,M,N,O,P,Q,R,T,U,V,W,X,Y,Z,aa,ab,ac,ad,ae,af,ag,ah,ai,aj,ak,al,am,an,ao,ap,aq,ar,aZ,au,av,aw,ax,ay,az,a0)):=by kernel_rfl
noncomputable def ZwD:Fn:=⟨29,[2],[],[],0,[],[],Tryz.f109,[.agg hs6],[.c (.bool)],[(164,Zto.S)]⟩
theorem ZyO:ZwD.S.Ok Tryz.prog 109:=ZwD.ok Tryz.func109 (by kernel_rfl) ⟨Zr3,trivial⟩
noncomputable def ZAa (a c d e f h j k m n o p q r s t u v w x:Int) (y:LL) (z A C D E G:Int) (H:Bool):Option (Bool):=ZwD.S.g [.i a,.i c,.i d,.i e,.i f,.i h,.i j,.i k,.i m,.i n,.i o,.i p,.i q,.i r,.i s,.i t,.i u,.i v,.i w,.i x,.l y,.i z,.i A,.i C,.i D,.i E,.i G,.b H]
theorem ZqF (a b c d e f g h i j k l m n o p q r s t:Int) (u:LL) (v w x y z A:Int) (C:Bool):ZAa a b c d e f g h i j k l m n o p q r s t u v w x y z A C =
 (if ((cop .eql a 0)&&((cop .eql b 0)&&((cop .eql c 0)&&true))) then
 if ((cop .eql d 0)&&((cop .eql e 0)&&((cop .eql f 0)&&((cop .eql g 0)&&((cop .eql h 0)&&((cop .eql i 0)&&((cop .eql j 0)&&((cop .eql k 0)&&((cop .eql l 0)&&((cop .eql m 0)&&((cop .eql n 0)&&((cop .eql o 0)&&true)))))))))))) then
 if (cop .eql p 0) then
 if (cop .eql q 0) then
 (Zqq r s t u v w x y z A C 0 0 0 E0 0 0 0 0 0 0 false).bind fun D=>
 some (D)
 else
 some (false)
 else
 some (false)
 else
 some (false)
 else
 some (false)):=by kernel_rfl
noncomputable def ZvZ:Fn:=⟨18,[2],[],[],0,[],[],Tryz.f110,[.agg [.int .i64,.slice 1,.slice 1]],[.c (.bool)],[]⟩
theorem ZvE:ZvZ.S.Ok Tryz.prog 110:=ZvZ.ok Tryz.func110 (by kernel_rfl) trivial
noncomputable def Zuk (a:Int) (b c:LL):Option (Bool):=ZvZ.S.g [.i a,.l b,.l c]
theorem Zrb (a:Int) (b c:LL):Zuk a b c =
 (if (cop .eql a 0) then
 if (cop .eql (List.length b:Int) 0) then
 some ((cop .eql (List.length c:Int) 0))
 else
 some (false)
 else
 some (false)):=by kernel_rfl
noncomputable def ZuS:Fn:=⟨37,[2],[],[],0,[],[],Tryz.f111,[.agg hs30],[.c (.bool)],[]⟩
theorem Zu9:ZuS.S.Ok Tryz.prog 111:=ZuS.ok Tryz.func111 (by kernel_rfl) trivial
noncomputable def ZtX (a b c d e f:LL):Option (Bool):=ZuS.S.g [.l a,.l b,.l c,.l d,.l e,.l f]
theorem Zq2 (a b c d e f:LL):ZtX a b c d e f =
 (if (cop .eql (List.length a:Int) 0) then
 if (cop .eql (List.length b:Int) 0) then
 if (cop .eql (List.length c:Int) 0) then
 if (cop .eql (List.length d:Int) 0) then
 if (cop .eql (List.length e:Int) 0) then
 some ((cop .eql (List.length f:Int) 0))
 else
 some (false)
 else
 some (false)
 else
 some (false)
 else
 some (false)
 else
 some (false)):=by kernel_rfl
noncomputable def Zws:Fn:=⟨31,[2],[],[],0,[],[],Tryz.f112,[.agg hs7],[.c (.bool)],[(110,ZvZ.S),(111,ZuS.S)]⟩
theorem ZxQ:Zws.S.Ok Tryz.prog 112:=Zws.ok Tryz.func112 (by kernel_rfl) ⟨ZvE,⟨Zu9,trivial⟩⟩
noncomputable def Zyj (a c:Int) (d e f h j k m n:LL) (o:Bool) (p:Int) (q r s t u v w x:LL):Option (Bool):=Zws.S.g [.i a,.i c,.l d,.l e,.l f,.l h,.l j,.l k,.l m,.l n,.b o,.i p,.l q,.l r,.l s,.l t,.l u,.l v,.l w,.l x]
theorem Zsk (a b:Int) (c d e f g h i j:LL) (k:Bool) (l:Int) (m n o p q r s t:LL):Zyj a b c d e f g h i j k l m n o p q r s t =
 (if (cop .eql a 0) then
 (Zuk b c d).bind fun u=>
 if u then
 (ZtX e f g h i j).bind fun v=>
 if v then
 if (!k) then
 (Zuk l m n).bind fun w=>
 if w then
 (ZtX o p q r s t).bind fun x=>
 some (x)
 else
 some (false)
 else
 some (false)
 else
 some (false)
 else
 some (false)
 else
 some (false)):=by kernel_rfl
noncomputable def F37:Fn:=⟨81,[2],[],[],0,[],[],Tryz.f37,[.agg hs0],[.c (.bool)],[(109,ZwD.S),(110,ZvZ.S),(111,ZuS.S),(112,Zws.S)]⟩
theorem ZBm:F37.S.Ok Tryz.prog 37:=F37.ok Tryz.func37 (by kernel_rfl) ⟨ZyO,⟨ZvE,⟨Zu9,⟨ZxQ,trivial⟩⟩⟩⟩
noncomputable def g37 (a c d e f h j k m n o:Int) (p:Bool) (q r s t u v w x y z A C D E G H J K L M:Int) (N:LL) (O P Q R T U:Int) (V:Bool) (W X Y Z:LL) (aa ab:Int) (ac ad ae af ag ah ai aj:LL) (ak al:Int) (am an ao ap aq ar aZ au:LL) (av:Bool) (aw:Int) (ax ay az a0 a1 a2 a3 a4:LL):Option (Bool):=F37.S.g [.i a,.i c,.i d,.i e,.i f,.i h,.i j,.i k,.i m,.i n,.i o,.b p,.i q,.i r,.i s,.i t,.i u,.i v,.i w,.i x,.i y,.i z,.i A,.i C,.i D,.i E,.i G,.i H,.i J,.i K,.i L,.i M,.l N,.i O,.i P,.i Q,.i R,.i T,.i U,.b V,.l W,.l X,.l Y,.l Z,.i aa,.i ab,.l ac,.l ad,.l ae,.l af,.l ag,.l ah,.l ai,.l aj,.i ak,.i al,.l am,.l an,.l ao,.l ap,.l aq,.l ar,.l aZ,.l au,.b av,.i aw,.l ax,.l ay,.l az,.l a0,.l a1,.l a2,.l a3,.l a4]
theorem Zux (x0 x1 x2 x3 a b c d e f g:Int) (h:Bool) (i j k l m n o p q r s t u v w x y z A C:Int) (D:LL) (E G H J K L:Int) (M:Bool) (N O P Q:LL) (R T:Int) (U V W X Y Z aa ab:LL) (ac ad:Int) (ae af ag ah ai aj ak al:LL) (am:Bool) (an:Int) (ao ap aq ar aZ au av aw:LL):g37 x0 x1 x2 x3 a b c d e f g h i j k l m n o p q r s t u v w x y z A C D E G H J K L M N O P Q R T U V W X Y Z aa ab ac ad ae af ag ah ai aj ak al am an ao ap aq ar aZ au av aw =
 (if (cop .eql a 0) then
 if (cop .eql b 0) then
 if (cop .eql c 0) then
 if ((cop .eql d 0)&&((cop .eql e 0)&&((cop .eql f 0)&&true))) then
 if (cop .eql g 0) then
 if (!h) then
 (ZAa i j k l m n o p q r s t u v w x y z A C D E G H J K L M).bind fun a1=>
 if a1 then
 if (cop .eql (List.length N:Int) 0) then
 if (cop .eql (List.length O:Int) 0) then
 if (cop .eql (List.length P:Int) 0) then
 if (cop .eql (List.length Q:Int) 0) then
 if (cop .eql R 0) then
 (Zuk T U V).bind fun a2=>
 if a2 then
 (ZtX W X Y Z aa ab).bind fun a3=>
 if a3 then
 (Zyj ac ad ae af ag ah ai aj ak al am an ao ap aq ar aZ au av aw).bind fun a4=>
 some (a4)
 else
 some (false)
 else
 some (false)
 else
 some (false)
 else
 some (false)
 else
 some (false)
 else
 some (false)
 else
 some (false)
 else
 some (false)
 else
 some (false)
 else
 some (false)
 else
 some (false)
 else
 some (false)
 else
 some (false)
 else
 some (false)):=by kernel_rfl
noncomputable def F12:Fn:=⟨50,[2],[(6,[(1,.box hs0),(5,.box hs0),(35,.c (.slice 1)),(36,.c (.int .i64)),(37,.c (.int .i64))])],[],0,[],[],Tryz.f12,[.agg hs0],[.c (.bool)],[(32,F32.S),(33,F33.S),(34,F34.S),(35,F35.S),(36,F36.S),(37,F37.S)]⟩
theorem ZAw:F12.S.Ok Tryz.prog 12:=F12.ok Tryz.func12 (by kernel_rfl) ⟨ZzY,⟨ZxV,⟨Zrd,⟨ZBi,⟨ZB7,⟨ZBm,trivial⟩⟩⟩⟩⟩⟩
noncomputable def g12 (a c d e f h j k m n o:Int) (p:Bool) (q r s t u v w x y z A C D E G H J K L M:Int) (N:LL) (O P Q R T U:Int) (V:Bool) (W X Y Z:LL) (aa ab:Int) (ac ad ae af ag ah ai aj:LL) (ak al:Int) (am an ao ap aq ar aZ au:LL) (av:Bool) (aw:Int) (ax ay az a0 a1 a2 a3 a4:LL):Option (Bool):=F12.S.g [.i a,.i c,.i d,.i e,.i f,.i h,.i j,.i k,.i m,.i n,.i o,.b p,.i q,.i r,.i s,.i t,.i u,.i v,.i w,.i x,.i y,.i z,.i A,.i C,.i D,.i E,.i G,.i H,.i J,.i K,.i L,.i M,.l N,.i O,.i P,.i Q,.i R,.i T,.i U,.b V,.l W,.l X,.l Y,.l Z,.i aa,.i ab,.l ac,.l ad,.l ae,.l af,.l ag,.l ah,.l ai,.l aj,.i ak,.i al,.l am,.l an,.l ao,.l ap,.l aq,.l ar,.l aZ,.l au,.b av,.i aw,.l ax,.l ay,.l az,.l a0,.l a1,.l a2,.l a3,.l a4]
noncomputable def Zn8 (k:Nat) (a c d e f g h j m n o:Int) (p:Bool) (q r s t u v w x y z A C D E G H J K L M:Int) (N:LL) (O P Q R T U:Int) (V:Bool) (W X Y Z:LL) (aa ab:Int) (ac ad ae af ag ah ai aj:LL) (ak al:Int) (am an ao ap aq ar aZ au:LL) (av:Bool) (aw:Int) (ax ay az a0 a1 a2 a3 a4:LL) (a5 a6 a7 a8 a9 ba bb bc bd be bf:Int) (bg:Bool) (bh bi bj bk bl bm bn bo bp bq br bs bt bu bv bw bx bz b0 b1:Int) (b2:LL) (b3 b4 b5 b6 b7 b8:Int) (b9:Bool) (ca cb cc cd:LL) (ce cf:Int) (cg ch ci cj ck cl cm cn:LL) (co cp:Int) (cq cr cs ct cu cv cw cx:LL) (cy:Bool) (cz:Int) (c0 c1 c2 c3 c4 c5 c6 c7 c8:LL) (c9 da:Int):Option (Bool):=F12.lp [0,1,0,1,0,1,0,1,0] 0 r0 k [.i a,.i c,.i d,.i e,.i f,.i g,.i h,.i j,.i m,.i n,.i o,.b p,.i q,.i r,.i s,.i t,.i u,.i v,.i w,.i x,.i y,.i z,.i A,.i C,.i D,.i E,.i G,.i H,.i J,.i K,.i L,.i M,.l N,.i O,.i P,.i Q,.i R,.i T,.i U,.b V,.l W,.l X,.l Y,.l Z,.i aa,.i ab,.l ac,.l ad,.l ae,.l af,.l ag,.l ah,.l ai,.l aj,.i ak,.i al,.l am,.l an,.l ao,.l ap,.l aq,.l ar,.l aZ,.l au,.b av,.i aw,.l ax,.l ay,.l az,.l a0,.l a1,.l a2,.l a3,.l a4,.i a5,.i a6,.i a7,.i a8,.i a9,.i ba,.i bb,.i bc,.i bd,.i be,.i bf,.b bg,.i bh,.i bi,.i bj,.i bk,.i bl,.i bm,.i bn,.i bo,.i bp,.i bq,.i br,.i bs,.i bt,.i bu,.i bv,.i bw,.i bx,.i bz,.i b0,.i b1,.l b2,.i b3,.i b4,.i b5,.i b6,.i b7,.i b8,.b b9,.l ca,.l cb,.l cc,.l cd,.i ce,.i cf,.l cg,.l ch,.l ci,.l cj,.l ck,.l cl,.l cm,.l cn,.i co,.i cp,.l cq,.l cr,.l cs,.l ct,.l cu,.l cv,.l cw,.l cx,.b cy,.i cz,.l c0,.l c1,.l c2,.l c3,.l c4,.l c5,.l c6,.l c7,.l c8,.i c9,.i da]
theorem Zjj (k:Nat) (d e f g h i j l m n o:Int) (p:Bool) (q r s t u v w x y z A C D E G H J K L M:Int) (N:LL) (O P Q R T U:Int) (V:Bool) (W X Y Z:LL) (aa ab:Int) (ac ad ae af ag ah ai aj:LL) (ak al:Int) (am an ao ap aq ar aZ au:LL) (av:Bool) (aw:Int) (ax ay az a0 a1 a2 a3 a4:LL) (a5 a6 a7 a8 a9 ba bb bc bd be bf:Int) (bg:Bool) (bh bi bj bk bl bm bn bo bp bq br bs bt bu bv bw bx bz b0 b1:Int) (b2:LL) (b3 b4 b5 b6 b7 b8:Int) (b9:Bool) (ca cb cc cd:LL) (ce cf:Int) (cg ch ci cj ck cl cm cn:LL) (co cp:Int) (cq cr cs ct cu cv cw cx:LL) (cy:Bool) (cz:Int) (c0 c1 c2 c3 c4 c5 c6 c7 c8:LL) (c9 b:Int):Zn8 (k+1) d e f g h i j l m n o p q r s t u v w x y z A C D E G H J K L M N O P Q R T U V W X Y Z aa ab ac ad ae af ag ah ai aj ak al am an ao ap aq ar aZ au av aw ax ay az a0 a1 a2 a3 a4 a5 a6 a7 a8 a9 ba bb bc bd be bf bg bh bi bj bk bl bm bn bo bp bq br bs bt bu bv bw bx bz b0 b1 b2 b3 b4 b5 b6 b7 b8 b9 ca cb cc cd ce cf cg ch ci cj ck cl cm cn co cp cq cr cs ct cu cv cw cx cy cz c0 c1 c2 c3 c4 c5 c6 c7 c8 c9 b =
 (if (cop .lss b c9) then
 Zj c8 b [.int .i64] fun (c:Int)=>
 (g35 d e f g h i j l m n o p q r s t u v w x y z A C D E G H J K L M N O P Q R T U V W X Y Z aa ab ac ad ae af ag ah ai aj ak al am an ao ap aq ar aZ au av aw ax ay az a0 a1 a2 a3 a4 c).bind fun da=>
 if (!da) then
 some (false)
 else
 (g36 a5 a6 a7 a8 a9 ba bb bc bd be bf bg bh bi bj bk bl bm bn bo bp bq br bs bt bu bv bw bx bz b0 b1 b2 b3 b4 b5 b6 b7 b8 b9 ca cb cc cd ce cf cg ch ci cj ck cl cm cn co cp cq cr cs ct cu cv cw cx cy cz c0 c1 c2 c3 c4 c5 c6 c7 c).bind fun a=>
 Zn8 k d e f g h i j l m n o p q r s t u v w x y z A C D E G H J K L M N O P Q R T U V W X Y Z aa ab ac ad ae af ag ah ai aj ak al am an ao ap aq ar aZ au av aw ax ay az a0 a1 a2 a3 a4 a.1 a.2.1 a.2.2.1 a.2.2.2.1 a.2.2.2.2.1 a.2.2.2.2.2.1 a.2.2.2.2.2.2.1 a.2.2.2.2.2.2.2.1 a.2.2.2.2.2.2.2.2.1 a.2.2.2.2.2.2.2.2.2.1 a.2.2.2.2.2.2.2.2.2.2.1 a.2.2.2.2.2.2.2.2.2.2.2.1 (d4 (d8 a)).1 (d4 (d8 a)).2.1 (d2 (d4 (d8 a))).1 (d2 (d4 (d8 a))).2.1 (d16 a).1 (d16 a).2.1 (d2 (d16 a)).1 (d2 (d16 a)).2.1 (d4 (d16 a)).1 (d4 (d16 a)).2.1 (d2 (d4 (d16 a))).1 (d2 (d4 (d16 a))).2.1 (d8 (d16 a)).1 (d8 (d16 a)).2.1 (d2 (d8 (d16 a))).1 (d2 (d8 (d16 a))).2.1 (d4 (d8 (d16 a))).1 (d4 (d8 (d16 a))).2.1 (d2 (d4 (d8 (d16 a)))).1 (d2 (d4 (d8 (d16 a)))).2.1 (d16 (d16 a)).1 (d16 (d16 a)).2.1 (d2 (d16 (d16 a))).1 (d2 (d16 (d16 a))).2.1 (d4 (d16 (d16 a))).1 (d4 (d16 (d16 a))).2.1 (d2 (d4 (d16 (d16 a)))).1 (d2 (d4 (d16 (d16 a)))).2.1 (d8 (d16 (d16 a))).1 (d8 (d16 (d16 a))).2.1 (d2 (d8 (d16 (d16 a)))).1 (d2 (d8 (d16 (d16 a)))).2.1 (d4 (d8 (d16 (d16 a)))).1 (d4 (d8 (d16 (d16 a)))).2.1 (d2 (d4 (d8 (d16 (d16 a))))).1 (d2 (d4 (d8 (d16 (d16 a))))).2.1 (d16 (d16 (d16 a))).1 (d16 (d16 (d16 a))).2.1 (d2 (d16 (d16 (d16 a)))).1 (d2 (d16 (d16 (d16 a)))).2.1 (d4 (d16 (d16 (d16 a)))).1 (d4 (d16 (d16 (d16 a)))).2.1 (d2 (d4 (d16 (d16 (d16 a))))).1 (d2 (d4 (d16 (d16 (d16 a))))).2.1 (d8 (d16 (d16 (d16 a)))).1 (d8 (d16 (d16 (d16 a)))).2.1 (d2 (d8 (d16 (d16 (d16 a))))).1 (d2 (d8 (d16 (d16 (d16 a))))).2.1 (d4 (d8 (d16 (d16 (d16 a))))).1 (d4 (d8 (d16 (d16 (d16 a))))).2.1 (d2 (d4 (d8 (d16 (d16 (d16 a)))))).1 (d2 (d4 (d8 (d16 (d16 (d16 a)))))).2.1 (d16 (d16 (d16 (d16 a)))).1 (d16 (d16 (d16 (d16 a)))).2.1 (d2 (d16 (d16 (d16 (d16 a))))).1 (d2 (d16 (d16 (d16 (d16 a))))).2.1 (d4 (d16 (d16 (d16 (d16 a))))).1 (d4 (d16 (d16 (d16 (d16 a))))).2.1 (d2 (d4 (d16 (d16 (d16 (d16 a)))))).1 (d2 (d4 (d16 (d16 (d16 (d16 a)))))).2.1 (d8 (d16 (d16 (d16 (d16 a))))).1 (d8 (d16 (d16 (d16 (d16 a))))).2 c8 c9 (iop .add .i64 b 1)
 else
 (g37 a5 a6 a7 a8 a9 ba bb bc bd be bf bg bh bi bj bk bl bm bn bo bp bq br bs bt bu bv bw bx bz b0 b1 b2 b3 b4 b5 b6 b7 b8 b9 ca cb cc cd ce cf cg ch ci cj ck cl cm cn co cp cq cr cs ct cu cv cw cx cy cz c0 c1 c2 c3 c4 c5 c6 c7).bind fun c=>
 some (c)):=by kernel_rfl
theorem Zu8 (a b c d e f g h i j k:Int) (l:Bool) (m n o p q r s t u v w x y z A C D E G H:Int) (J:LL) (K L M N O P:Int) (Q:Bool) (R T U V:LL) (W X:Int) (Y Z aa ab ac ad ae af:LL) (ag ah:Int) (ai aj ak al am an ao ap:LL) (aq:Bool) (ar:Int) (aZ au av aw ax ay az a0:LL):g12 a b c d e f g h i j k l m n o p q r s t u v w x y z A C D E G H J K L M N O P Q R T U V W X Y Z aa ab ac ad ae af ag ah ai aj ak al am an ao ap aq ar aZ au av aw ax ay az a0 =
 ((g32 a).bind fun a1=>
 if (!a1.2) then
 some (false)
 else
 (g33 b).bind fun a2=>
 if (!a2) then
 some (false)
 else
 (g34 c).bind fun a3=>
 if (!a3) then
 some (false)
 else
 (g34 d).bind fun a4=>
 if (!a4) then
 some (false)
 else
 Zn8 ZE a b c d e f g h i j k l m n o p q r s t u v w x y z A C D E G H J K L M N O P Q R T U V W X Y Z aa ab ac ad ae af ag ah ai aj ak al am an ao ap aq ar aZ au av aw ax ay az a0 a b c d e f g h i j k l m n o p q r s t u v w x y z A C D E G H J K L M N O P Q R T U V W X Y Z aa ab ac ad ae af ag ah ai aj ak al am an ao ap aq ar aZ au av aw ax ay az a0 a1.1 (List.length a1.1:Int) 0):=by kernel_rfl
noncomputable def Ztz:Fn:=⟨31,[2],[],[],0,[],[],Tryz.f128,[.agg [.int .i64,.int .i64,.int .i64]],[.c (.bool)],[]⟩
theorem ZtQ:Ztz.S.Ok Tryz.prog 128:=Ztz.ok Tryz.func128 (by kernel_rfl) trivial
noncomputable def ZtS (a b c:Int):Option (Bool):=Ztz.S.g [.i a,.i b,.i c]
theorem ZqG (a b c:Int):ZtS a b c =
 (if (cop .geq a 0) then
 if (cop .lss a 32) then
 if (cop .geq b 1) then
 if (cop .leq b 1073741824) then
 if (cop .geq c 0) then
 some ((cop .lss c 8))
 else
 some (false)
 else
 some (false)
 else
 some (false)
 else
 some (false)
 else
 some (false)):=by kernel_rfl
noncomputable def F69:Fn:=⟨26,[4],[(4,[(0,.c (.slice 3)),(1,.c (.slice 3)),(5,.c (.int .i64))])],[],0,[],[],Tryz.f69,[.c (.slice 3),.c (.slice 3)],[.c (.bool)],[]⟩
theorem ZyF:F69.S.Ok Tryz.prog 69:=F69.ok Tryz.func69 (by kernel_rfl) trivial
noncomputable def g69 (a b:LL):Option (Bool):=F69.S.g [.l a,.l b]
noncomputable def ZoT (k:Nat) (a b:LL) (c:Int):Option (Bool):=F69.lp [1,0] 0 r0 k [.l a,.l b,.i c]
theorem ZjN (k:Nat) (b c:LL) (a:Int):ZoT (k+1) b c a =
 (if (cop .lss a (List.length b:Int)) then
 Zj b a [.int .i64,.int .i64,.int .i64] fun (d:Int×Int×Int)=>
 Zj c a [.int .i64,.int .i64,.int .i64] fun (e:Int×Int×Int)=>
 if (!((cop .eql d.1 e.1)&&((cop .eql d.2.1 e.2.1)&&((cop .eql d.2.2 e.2.2)&&true)))) then
 some (false)
 else
 ZoT k b c (iop .add .i64 a 1)
 else
 some (true)):=by kernel_rfl
theorem Zve (a b:LL):g69 a b =
 (if (cop .neq (List.length a:Int) (List.length b:Int)) then
 some (false)
 else
 ZoT ZE a b 0):=by kernel_rfl
noncomputable def Zsp:Fn:=⟨24,[4],[],[],0,[],[],Tryz.f127,[.agg hs16,.agg hs16],[.c (.bool)],[(69,F69.S)]⟩
theorem Zpc:Zsp.S.Ok Tryz.prog 127:=Zsp.ok Tryz.func127 (by kernel_rfl) ⟨ZyF,trivial⟩
noncomputable def Ztc (a c d:Int) (e:LL) (f h j k m n:Int) (o:Bool) (p q r:Int) (s:LL) (t u v w x y:Int) (z:Bool):Option (Bool):=Zsp.S.g [.i a,.i c,.i d,.l e,.i f,.i h,.i j,.i k,.i m,.i n,.b o,.i p,.i q,.i r,.l s,.i t,.i u,.i v,.i w,.i x,.i y,.b z]
theorem ZrH (a b c:Int) (d:LL) (e f g h i j:Int) (k:Bool) (l m n:Int) (o:LL) (p q r s t u:Int) (v:Bool):Ztc a b c d e f g h i j k l m n o p q r s t u v =
 (if ((cop .eql a l)&&((cop .eql b m)&&((cop .eql c n)&&true))) then
 if ((cop .eql e p)&&((cop .eql f q)&&((cop .eql g r)&&((cop .eql h s)&&((cop .eql i t)&&((cop .eql j u)&&((k == v)&&true))))))) then
 (g69 d o).bind fun w=>
 some (w)
 else
 some (false)
 else
 some (false)):=by kernel_rfl
noncomputable def Zwo:Fn:=⟨12,[2],[],[],0,[],[],Tryz.f195,[.c (.int .i64)],[.c (.int .i64)],[]⟩
theorem Zzf:Zwo.S.Ok Tryz.prog 195:=Zwo.ok Tryz.func195 (by kernel_rfl) trivial
noncomputable def Zzc (a:Int):Option (Int):=Zwo.S.g [.i a]
theorem ZsP (a:Int):Zzc a =
 (if (cop .eql a 3) then
 some (12)
 else
 if (cop .eql a 4) then
 some (6)
 else
 if (cop .eql a 5) then
 some (10)
 else
 if (cop .eql a 6) then
 some (16)
 else
 some (0)):=by kernel_rfl
noncomputable def Zty:Fn:=⟨35,[4],[],[],0,[],[],Tryz.f162,[.c (.int .i64),.c (.int .i64)],[.c (.bool)],[(195,Zwo.S)]⟩
theorem ZvW:Zty.S.Ok Tryz.prog 162:=Zty.ok Tryz.func162 (by kernel_rfl) ⟨Zzf,trivial⟩
noncomputable def Zwm (a b:Int):Option (Bool):=Zty.S.g [.i a,.i b]
theorem Zrj (a b:Int):Zwm a b =
 (if (cop .eql a 1) then
 if (cop .geq b 6) then
 some ((cop .leq b 40))
 else
 some (false)
 else
 if (cop .eql a 2) then
 if (cop .geq b 12) then
 some ((cop .leq b 40))
 else
 some (false)
 else
 if (cop .geq a 3) then
 if (cop .leq a 6) then
 (Zzc a).bind fun c=>
 some ((cop .eql b c))
 else
 some (false)
 else
 some (false)):=by kernel_rfl
noncomputable def Zvn:Fn:=⟨8,[2],[],[],0,[],[],Tryz.f159,[.agg hs27],[.agg [.int .i64,.int .i64]],[]⟩
theorem ZuM:Zvn.S.Ok Tryz.prog 159:=Zvn.ok Tryz.func159 (by kernel_rfl) trivial
noncomputable def ZlT (a c d e f h:Int) (j:Bool):Option (Int×Int):=Zvn.S.g [.i a,.i c,.i d,.i e,.i f,.i h,.b j]
theorem Zsa (c a b d e f:Int) (g:Bool):ZlT c a b d e f g =
 (some (a,b)):=by kernel_rfl
noncomputable def Zrt:Fn:=⟨38,[2],[],[],0,[],[],Tryz.f185,[.agg [.int .i64,.int .i64]],[.c (.bool)],[]⟩
theorem Zpk:Zrt.S.Ok Tryz.prog 185:=Zrt.ok Tryz.func185 (by kernel_rfl) trivial
noncomputable def Zp6 (a b:Int):Option (Bool):=Zrt.S.g [.i a,.i b]
theorem Zqv (b a:Int):Zp6 b a =
 (if (cop .lss a 6) then
 some (false)
 else
 if (cop .gtr a 40) then
 some (false)
 else
 if (cop .lss b 0) then
 some (false)
 else
 if (cop .geq b 1099511627776) then
 some (false)
 else
 ZA ((0:Int)≤(IntKind.wrap .u64 a))<|
 ZA (((iop .shl .i64 1 (IntKind.wrap .u64 a)):Int)≠0)<|
 if (cop .eql (iop .rem .i64 b (iop .shl .i64 1 (IntKind.wrap .u64 a))) 0) then
 some ((cop .leq (iop .add .i64 b (iop .shl .i64 1 (IntKind.wrap .u64 a))) 1099511627776))
 else
 some (false)):=by kernel_rfl
noncomputable def ZtA:Fn:=⟨23,[4],[],[],0,[],[],Tryz.f163,[.c (.int .i64),.c (.int .i64)],[.c (.bool)],[]⟩
theorem ZtM:ZtA.S.Ok Tryz.prog 163:=ZtA.ok Tryz.func163 (by kernel_rfl) trivial
noncomputable def ZwS (a b:Int):Option (Bool):=ZtA.S.g [.i a,.i b]
theorem ZrQ (b a:Int):ZwS b a =
 (if (cop .geq a 0) then
 if (cop .eql b 32) then
 if (cop .leq a 1) then
 some (true)
 else
 if (cop .eql b 39) then
 some ((cop .leq a 2))
 else
 some (false)
 else
 if (cop .eql b 39) then
 some ((cop .leq a 2))
 else
 some (false)
 else
 some (false)):=by kernel_rfl
noncomputable def Ztb:Fn:=⟨64,[2],[],[],0,[],[],Tryz.f130,[.agg hs27],[.c (.bool)],[(162,Zty.S),(159,Zvn.S),(185,Zrt.S),(163,ZtA.S)]⟩
theorem Zqh:Ztb.S.Ok Tryz.prog 130:=Ztb.ok Tryz.func130 (by kernel_rfl) ⟨ZvW,⟨ZuM,⟨Zpk,⟨ZtM,trivial⟩⟩⟩⟩
noncomputable def Zvw (a c d e f h:Int) (j:Bool):Option (Bool):=Ztb.S.g [.i a,.i c,.i d,.i e,.i f,.i h,.b j]
theorem Zr5 (a g f e c d:Int) (b:Bool):Zvw a g f e c d b =
 ((Zwm a f).bind fun i=>
 if (!i) then
 some (false)
 else
 (ZlT a g f e c d b).bind fun h=>
 (Zp6 h.1 h.2).bind fun j=>
 if (!j) then
 some (false)
 else
 if (cop .lss e 0) then
 some (false)
 else
 if (cop .gtr e 7) then
 some (false)
 else
 if (cop .eql a 3) then
 (ZwS c d).bind fun k=>
 if (!k) then
 some (false)
 else
 if (cop .neq a 3) then
 if (cop .neq c 0) then
 some (false)
 else
 if (cop .neq d 0) then
 some (false)
 else
 if (!b) then
 some (true)
 else
 if (cop .eql a 1) then
 some (true)
 else
 some ((cop .eql a 2))
 else
 if (!b) then
 some (true)
 else
 if (cop .eql a 1) then
 some (true)
 else
 some ((cop .eql a 2))
 else
 if (cop .neq a 3) then
 if (cop .neq c 0) then
 some (false)
 else
 if (cop .neq d 0) then
 some (false)
 else
 if (!b) then
 some (true)
 else
 if (cop .eql a 1) then
 some (true)
 else
 some ((cop .eql a 2))
 else
 if (!b) then
 some (true)
 else
 if (cop .eql a 1) then
 some (true)
 else
 some ((cop .eql a 2))):=by kernel_rfl
noncomputable def F78:Fn:=⟨18,[4],[(2,[(0,.c (.slice 3)),(3,.box [.int .i64,.int .i64,.int .i64]),(5,.c (.int .i64))])],[],0,[],[],Tryz.f78,[.c (.slice 3),.agg [.int .i64,.int .i64,.int .i64]],[.c (.bool)],[]⟩
theorem Zzj:F78.S.Ok Tryz.prog 78:=F78.ok Tryz.func78 (by kernel_rfl) trivial
noncomputable def g78 (a:LL) (b c d:Int):Option (Bool):=F78.S.g [.l a,.i b,.i c,.i d]
noncomputable def ZpB (k:Nat) (a:LL) (b c d e:Int):Option (Bool):=F78.lp [0] 0 r0 k [.l a,.i b,.i c,.i d,.i e]
theorem Zka (k:Nat) (a:LL) (c d e b:Int):ZpB (k+1) a c d e b =
 (if (cop .lss b (List.length a:Int)) then
 Zj a b [.int .i64,.int .i64,.int .i64] fun (f:Int×Int×Int)=>
 if ((cop .eql f.1 c)&&((cop .eql f.2.1 d)&&((cop .eql f.2.2 e)&&true))) then
 some (true)
 else
 ZpB k a c d e (iop .add .i64 b 1)
 else
 some (false)):=by kernel_rfl
theorem Zwa (a:LL) (b c d:Int):g78 a b c d =
 (ZpB ZE a b c d 0):=by kernel_rfl
noncomputable def F61:Fn:=⟨53,[2],[(4,[(1,.box hs16),(3,.c (.int .i64))])],[],0,[],[],Tryz.f61,[.agg hs16],[.c (.bool)],[(128,Ztz.S),(130,Ztb.S),(78,F78.S)]⟩
theorem ZBT:F61.S.Ok Tryz.prog 61:=F61.ok Tryz.func61 (by kernel_rfl) ⟨ZtQ,⟨Zqh,⟨Zzj,trivial⟩⟩⟩
noncomputable def g61 (a c d:Int) (e:LL) (f h j k m n:Int) (o:Bool):Option (Bool):=F61.S.g [.i a,.i c,.i d,.l e,.i f,.i h,.i j,.i k,.i m,.i n,.b o]
noncomputable def ZoI (k:Nat) (a c d:Int) (e:LL) (f g h j m n:Int) (o:Bool) (p:Int):Option (Bool):=F61.lp [0,1,0,1,1,0,1,0] 0 r0 k [.i a,.i c,.i d,.l e,.i f,.i g,.i h,.i j,.i m,.i n,.b o,.i p]
theorem Zkd (k:Nat) (e f g:Int) (b:LL) (h i j l m n:Int) (o:Bool) (a:Int):ZoI (k+1) e f g b h i j l m n o a =
 (if (cop .lss a (List.length b:Int)) then
 Zj b a [.int .i64,.int .i64,.int .i64] fun (c:Int×Int×Int)=>
 (ZtS c.1 c.2.1 c.2.2).bind fun p=>
 if (!p) then
 some (false)
 else
 ZA ((0:Int)≤a)<|
 ZA ((a:Int)≤(List.length b:Int))<|
 Zj b a [.int .i64,.int .i64,.int .i64] fun (d:Int×Int×Int)=>
 (g78 (List.take (Int.toNat a) b) d.1 d.2.1 d.2.2).bind fun q=>
 if q then
 some (false)
 else
 ZoI k e f g b h i j l m n o (iop .add .i64 a 1)
 else
 some (true)):=by kernel_rfl
theorem Zub (a b c:Int) (d:LL) (e f g h i j:Int) (k:Bool):g61 a b c d e f g h i j k =
 ((ZtS a b c).bind fun l=>
 if (!l) then
 some (false)
 else
 (Zvw e f g h i j k).bind fun m=>
 if (!m) then
 some (false)
 else
 if (cop .gtr (List.length d:Int) 8) then
 some (false)
 else
 (g78 d a b c).bind fun n=>
 if n then
 some (false)
 else
 ZoI ZE a b c d e f g h i j k 0):=by kernel_rfl
noncomputable def F79:Fn:=⟨18,[4],[(2,[(0,.c (.slice 1)),(1,.c (.int .i64)),(5,.c (.int .i64))])],[],0,[],[],Tryz.f79,[.c (.slice 1),.c (.int .i64)],[.c (.bool)],[]⟩
theorem ZBn:F79.S.Ok Tryz.prog 79:=F79.ok Tryz.func79 (by kernel_rfl) trivial
noncomputable def g79 (a:LL) (b:Int):Option (Bool):=F79.S.g [.l a,.i b]
noncomputable def ZiG (k:Nat) (a:LL) (b c:Int):Option (Bool):=F79.lp [0] 0 r0 k [.l a,.i b,.i c]
theorem Zjb (k:Nat) (a:LL) (c b:Int):ZiG (k+1) a c b =
 (if (cop .lss b (List.length a:Int)) then
 Zj a b [.int .i64] fun (d:Int)=>
 if (cop .eql d c) then
 some (true)
 else
 ZiG k a c (iop .add .i64 b 1)
 else
 some (false)):=by kernel_rfl
theorem Zuc (a:LL) (b:Int):g79 a b =
 (ZiG ZE a b 0):=by kernel_rfl
noncomputable def F81:Fn:=⟨8,[2],[],[],0,[],[],Tryz.f81,[.agg hs11],[.c (.bool)],[]⟩
theorem ZA4:F81.S.Ok Tryz.prog 81:=F81.ok Tryz.func81 (by kernel_rfl) trivial
noncomputable def g81 (a c d:Int) (e:LL) (f h j k m n:Int) (o:Bool) (p q r s:Int):Option (Bool):=F81.S.g [.i a,.i c,.i d,.l e,.i f,.i h,.i j,.i k,.i m,.i n,.b o,.i p,.i q,.i r,.i s]
theorem Zvj (a b c:Int) (d:LL) (e f g h i j:Int) (k:Bool) (l m n o:Int):g81 a b c d e f g h i j k l m n o =
 (some (((cop .eql a 0)&&((cop .eql b 0)&&((cop .eql c 0)&&true))))):=by kernel_rfl
noncomputable def F82:Fn:=⟨30,[4],[],[],0,[],[],Tryz.f82,[.agg [.int .i64,.int .i64,.int .i64],.agg [.int .i64,.int .i64,.int .i64]],[.c (.bool)],[]⟩
theorem ZAu:F82.S.Ok Tryz.prog 82:=F82.ok Tryz.func82 (by kernel_rfl) trivial
noncomputable def g82 (a b c d e f:Int):Option (Bool):=F82.S.g [.i a,.i b,.i c,.i d,.i e,.i f]
theorem Zvv (a b e c d f:Int):g82 a b e c d f =
 (if (cop .neq a c) then
 some ((cop .lss a c))
 else
 if (cop .neq b d) then
 some ((cop .lss b d))
 else
 some ((cop .lss e f))):=by kernel_rfl
noncomputable def F68:Fn:=⟨38,[4],[],[],0,[],[],Tryz.f68,[.agg hs6,.agg hs6],[.c (.bool)],[(127,Zsp.S)]⟩
theorem ZAv:F68.S.Ok Tryz.prog 68:=F68.ok Tryz.func68 (by kernel_rfl) ⟨Zpc,trivial⟩
noncomputable def g68 (a c d e f h j k m n o p q r s t u v w x:Int) (y:LL) (z A C D E G:Int) (H:Bool) (J K L M N O P Q R T U V W X Y Z aa ab ac ad:Int) (ae:LL) (af ag ah ai aj ak:Int) (al:Bool):Option (Bool):=F68.S.g [.i a,.i c,.i d,.i e,.i f,.i h,.i j,.i k,.i m,.i n,.i o,.i p,.i q,.i r,.i s,.i t,.i u,.i v,.i w,.i x,.l y,.i z,.i A,.i C,.i D,.i E,.i G,.b H,.i J,.i K,.i L,.i M,.i N,.i O,.i P,.i Q,.i R,.i T,.i U,.i V,.i W,.i X,.i Y,.i Z,.i aa,.i ab,.i ac,.i ad,.l ae,.i af,.i ag,.i ah,.i ai,.i aj,.i ak,.b al]
theorem ZtE (a b c d e f g h i j k l m n o p q r s t:Int) (u:LL) (v w x y z A:Int) (C:Bool) (D E G H J K L M N O P Q R T U V W X Y Z:Int) (aa:LL) (ab ac ad ae af ag:Int) (ah:Bool):g68 a b c d e f g h i j k l m n o p q r s t u v w x y z A C D E G H J K L M N O P Q R T U V W X Y Z aa ab ac ad ae af ag ah =
 (if ((cop .eql a D)&&((cop .eql b E)&&((cop .eql c G)&&true))) then
 if ((cop .eql d H)&&((cop .eql e J)&&((cop .eql f K)&&((cop .eql g L)&&((cop .eql h M)&&((cop .eql i N)&&((cop .eql j O)&&((cop .eql k P)&&((cop .eql l Q)&&((cop .eql m R)&&((cop .eql n T)&&((cop .eql o U)&&true)))))))))))) then
 if (cop .eql p V) then
 if (cop .eql q W) then
 (Ztc r s t u v w x y z A C X Y Z aa ab ac ad ae af ag ah).bind fun ai=>
 some (ai)
 else
 some (false)
 else
 some (false)
 else
 some (false)
 else
 some (false)):=by kernel_rfl
noncomputable def F70:Fn:=⟨27,[4],[(4,[(0,.c (.slice 11)),(1,.c (.slice 11)),(5,.c (.int .i64))])],[],0,[],[],Tryz.f70,[.c (.slice 11),.c (.slice 11)],[.c (.bool)],[(127,Zsp.S)]⟩
theorem ZBk:F70.S.Ok Tryz.prog 70:=F70.ok Tryz.func70 (by kernel_rfl) ⟨Zpc,trivial⟩
noncomputable def g70 (a b:LL):Option (Bool):=F70.S.g [.l a,.l b]
noncomputable def ZlK (k:Nat) (a b:LL) (c:Int):Option (Bool):=F70.lp [1,0] 0 r0 k [.l a,.l b,.i c]
theorem ZiY (k:Nat) (d e:LL) (c:Int):ZlK (k+1) d e c =
 (if (cop .lss c (List.length d:Int)) then
 Zj d c hs16 fun (a:Qt31)=>
 Zj e c hs16 fun (b:Qt31)=>
 (Ztc a.1 a.2.1 a.2.2.1 a.2.2.2.1 a.2.2.2.2.1 a.2.2.2.2.2.1 a.2.2.2.2.2.2.1 a.2.2.2.2.2.2.2.1 a.2.2.2.2.2.2.2.2.1 a.2.2.2.2.2.2.2.2.2.1 a.2.2.2.2.2.2.2.2.2.2 b.1 b.2.1 b.2.2.1 b.2.2.2.1 b.2.2.2.2.1 b.2.2.2.2.2.1 b.2.2.2.2.2.2.1 b.2.2.2.2.2.2.2.1 b.2.2.2.2.2.2.2.2.1 b.2.2.2.2.2.2.2.2.2.1 b.2.2.2.2.2.2.2.2.2.2).bind fun f=>
 if (!f) then
 some (false)
 else
 ZlK k d e (iop .add .i64 c 1)
 else
 some (true)):=by kernel_rfl
theorem ZtP (a b:LL):g70 a b =
 (if (cop .neq (List.length a:Int) (List.length b:Int)) then
 some (false)
 else
 ZlK ZE a b 0):=by kernel_rfl
noncomputable def F71:Fn:=⟨26,[4],[(4,[(0,.c (.slice 1)),(1,.c (.slice 1)),(5,.c (.int .i64))])],[],0,[],[],Tryz.f71,[.c (.slice 1),.c (.slice 1)],[.c (.bool)],[]⟩
theorem ZAz:F71.S.Ok Tryz.prog 71:=F71.ok Tryz.func71 (by kernel_rfl) trivial
noncomputable def g71 (a b:LL):Option (Bool):=F71.S.g [.l a,.l b]
noncomputable def ZlX (k:Nat) (a b:LL) (c:Int):Option (Bool):=F71.lp [1,0] 0 r0 k [.l a,.l b,.i c]
theorem Zjn (k:Nat) (b c:LL) (a:Int):ZlX (k+1) b c a =
 (if (cop .lss a (List.length b:Int)) then
 Zj b a [.int .i64] fun (d:Int)=>
 Zj c a [.int .i64] fun (e:Int)=>
 if (cop .neq d e) then
 some (false)
 else
 ZlX k b c (iop .add .i64 a 1)
 else
 some (true)):=by kernel_rfl
theorem ZvD (a b:LL):g71 a b =
 (if (cop .neq (List.length a:Int) (List.length b:Int)) then
 some (false)
 else
 ZlX ZE a b 0):=by kernel_rfl
noncomputable def F72:Fn:=⟨26,[4],[(4,[(0,.c (.slice 2)),(1,.c (.slice 2)),(5,.c (.int .i64))])],[],0,[],[],Tryz.f72,[.c (.slice 2),.c (.slice 2)],[.c (.bool)],[]⟩
theorem ZBQ:F72.S.Ok Tryz.prog 72:=F72.ok Tryz.func72 (by kernel_rfl) trivial
noncomputable def g72 (a b:LL):Option (Bool):=F72.S.g [.l a,.l b]
noncomputable def Zl4 (k:Nat) (a b:LL) (c:Int):Option (Bool):=F72.lp [1,0] 0 r0 k [.l a,.l b,.i c]
theorem Zjh (k:Nat) (b c:LL) (a:Int):Zl4 (k+1) b c a =
 (if (cop .lss a (List.length b:Int)) then
 Zj b a [.int .i64,.int .i64] fun (d:Int×Int)=>
 Zj c a [.int .i64,.int .i64] fun (e:Int×Int)=>
 if (!((cop .eql d.1 e.1)&&((cop .eql d.2 e.2)&&true))) then
 some (false)
 else
 Zl4 k b c (iop .add .i64 a 1)
 else
 some (true)):=by kernel_rfl
theorem ZtK (a b:LL):g72 a b =
 (if (cop .neq (List.length a:Int) (List.length b:Int)) then
 some (false)
 else
 Zl4 ZE a b 0):=by kernel_rfl
noncomputable def F73:Fn:=⟨24,[4],[],[],0,[],[],Tryz.f73,[.agg [.int .i64,.slice 1,.slice 1],.agg [.int .i64,.slice 1,.slice 1]],[.c (.bool)],[(71,F71.S)]⟩
theorem ZAt:F73.S.Ok Tryz.prog 73:=F73.ok Tryz.func73 (by kernel_rfl) ⟨ZAz,trivial⟩
noncomputable def g73 (a:Int) (b c:LL) (d:Int) (e f:LL):Option (Bool):=F73.S.g [.i a,.l b,.l c,.i d,.l e,.l f]
theorem ZvY (a:Int) (b c:LL) (d:Int) (e f:LL):g73 a b c d e f =
 (if (cop .eql a d) then
 (g71 b e).bind fun g=>
 if g then
 (g71 c f).bind fun h=>
 some (h)
 else
 some (false)
 else
 some (false)):=by kernel_rfl
noncomputable def ZtT:Fn:=⟨55,[4],[(4,[(0,.c (.slice 15)),(1,.c (.slice 15)),(5,.c (.int .i64))])],[],0,[],[],Tryz.f151,[.c (.slice 15),.c (.slice 15)],[.c (.bool)],[(127,Zsp.S)]⟩
theorem ZyU:ZtT.S.Ok Tryz.prog 151:=ZtT.ok Tryz.func151 (by kernel_rfl) ⟨Zpc,trivial⟩
noncomputable def ZAe (a b:LL):Option (Bool):=ZtT.S.g [.l a,.l b]
noncomputable def Zhj (k:Nat) (a b:LL) (c:Int):Option (Bool):=ZtT.lp [1,0] 0 r0 k [.l a,.l b,.i c]
theorem Zf6 (k:Nat) (d e:LL) (c:Int):Zhj (k+1) d e c =
 (if (cop .lss c (List.length d:Int)) then
 Zj d c hs11 fun (h:Qt21)=>
 Zj e c hs11 fun (i:Qt21)=>
 if (cop .neq h.2.2.2.2.2.2.2.2.2.2.2.1 i.2.2.2.2.2.2.2.2.2.2.2.1) then
 some (false)
 else
 Zj d c hs11 fun (f:Qt21)=>
 Zj e c hs11 fun (g:Qt21)=>
 if (!((cop .eql (d4 (d8 f)).1 (d4 (d8 g)).1)&&((cop .eql (d4 (d8 f)).2.1 (d4 (d8 g)).2.1)&&((cop .eql (d2 (d4 (d8 f))) (d2 (d4 (d8 g))))&&true)))) then
 some (false)
 else
 Zj d c hs11 fun (a:Qt21)=>
 Zj e c hs11 fun (b:Qt21)=>
 (Ztc a.1 a.2.1 a.2.2.1 a.2.2.2.1 a.2.2.2.2.1 a.2.2.2.2.2.1 a.2.2.2.2.2.2.1 a.2.2.2.2.2.2.2.1 a.2.2.2.2.2.2.2.2.1 a.2.2.2.2.2.2.2.2.2.1 a.2.2.2.2.2.2.2.2.2.2.1 b.1 b.2.1 b.2.2.1 b.2.2.2.1 b.2.2.2.2.1 b.2.2.2.2.2.1 b.2.2.2.2.2.2.1 b.2.2.2.2.2.2.2.1 b.2.2.2.2.2.2.2.2.1 b.2.2.2.2.2.2.2.2.2.1 b.2.2.2.2.2.2.2.2.2.2.1).bind fun j=>
 if (!j) then
 some (false)
 else
 Zhj k d e (iop .add .i64 c 1)
 else
 some (true)):=by kernel_rfl
theorem ZqS (a b:LL):ZAe a b =
 (if (cop .neq (List.length a:Int) (List.length b:Int)) then
 some (false)
 else
 Zhj ZE a b 0):=by kernel_rfl
noncomputable def Zvg:Fn:=⟨27,[4],[(4,[(0,.c (.slice 28)),(1,.c (.slice 28)),(5,.c (.int .i64))])],[],0,[],[],Tryz.f152,[.c (.slice 28),.c (.slice 28)],[.c (.bool)],[(68,F68.S)]⟩
theorem ZyX:Zvg.S.Ok Tryz.prog 152:=Zvg.ok Tryz.func152 (by kernel_rfl) ⟨ZAv,trivial⟩
noncomputable def ZxU (a b:LL):Option (Bool):=Zvg.S.g [.l a,.l b]
noncomputable def Zgj (k:Nat) (a b:LL) (c:Int):Option (Bool):=Zvg.lp [1,0] 0 r0 k [.l a,.l b,.i c]
theorem ZfV (k:Nat) (d e:LL) (c:Int):Zgj (k+1) d e c =
 (if (cop .lss c (List.length d:Int)) then
 Zj d c hs6 fun (a:Qt10)=>
 Zj e c hs6 fun (b:Qt10)=>
 (g68 a.1 a.2.1 a.2.2.1 a.2.2.2.1 a.2.2.2.2.1 a.2.2.2.2.2.1 a.2.2.2.2.2.2.1 a.2.2.2.2.2.2.2.1 a.2.2.2.2.2.2.2.2.1 a.2.2.2.2.2.2.2.2.2.1 a.2.2.2.2.2.2.2.2.2.2.1 a.2.2.2.2.2.2.2.2.2.2.2.1 (d4 (d8 a)).1 (d4 (d8 a)).2.1 (d2 (d4 (d8 a))).1 (d2 (d4 (d8 a))).2.1 (d16 a).1 (d16 a).2.1 (d2 (d16 a)).1 (d2 (d16 a)).2.1 (d4 (d16 a)).1 (d4 (d16 a)).2.1 (d2 (d4 (d16 a))).1 (d2 (d4 (d16 a))).2.1 (d8 (d16 a)).1 (d8 (d16 a)).2.1 (d2 (d8 (d16 a))).1 (d2 (d8 (d16 a))).2 b.1 b.2.1 b.2.2.1 b.2.2.2.1 b.2.2.2.2.1 b.2.2.2.2.2.1 b.2.2.2.2.2.2.1 b.2.2.2.2.2.2.2.1 b.2.2.2.2.2.2.2.2.1 b.2.2.2.2.2.2.2.2.2.1 b.2.2.2.2.2.2.2.2.2.2.1 b.2.2.2.2.2.2.2.2.2.2.2.1 (d4 (d8 b)).1 (d4 (d8 b)).2.1 (d2 (d4 (d8 b))).1 (d2 (d4 (d8 b))).2.1 (d16 b).1 (d16 b).2.1 (d2 (d16 b)).1 (d2 (d16 b)).2.1 (d4 (d16 b)).1 (d4 (d16 b)).2.1 (d2 (d4 (d16 b))).1 (d2 (d4 (d16 b))).2.1 (d8 (d16 b)).1 (d8 (d16 b)).2.1 (d2 (d8 (d16 b))).1 (d2 (d8 (d16 b))).2).bind fun f=>
 if (!f) then
 some (false)
 else
 Zgj k d e (iop .add .i64 c 1)
 else
 some (true)):=by kernel_rfl
theorem ZqN (a b:LL):ZxU a b =
 (if (cop .neq (List.length a:Int) (List.length b:Int)) then
 some (false)
 else
 Zgj ZE a b 0):=by kernel_rfl
noncomputable def Zv0:Fn:=⟨26,[4],[(4,[(0,.c (.slice 4)),(1,.c (.slice 4)),(5,.c (.int .i64))])],[],0,[],[],Tryz.f153,[.c (.slice 4),.c (.slice 4)],[.c (.bool)],[]⟩
theorem ZzK:Zv0.S.Ok Tryz.prog 153:=Zv0.ok Tryz.func153 (by kernel_rfl) trivial
noncomputable def ZzH (a b:LL):Option (Bool):=Zv0.S.g [.l a,.l b]
noncomputable def Zhn (k:Nat) (a b:LL) (c:Int):Option (Bool):=Zv0.lp [1,0] 0 r0 k [.l a,.l b,.i c]
theorem Zgm (k:Nat) (b e:LL) (a:Int):Zhn (k+1) b e a =
 (if (cop .lss a (List.length b:Int)) then
 Zj b a [.int .i64,.int .i64,.int .i64,.int .i64] fun (c:Int×Int×Int×Int)=>
 Zj e a [.int .i64,.int .i64,.int .i64,.int .i64] fun (d:Int×Int×Int×Int)=>
 if (!((cop .eql c.1 d.1)&&((cop .eql c.2.1 d.2.1)&&((cop .eql c.2.2.1 d.2.2.1)&&((cop .eql c.2.2.2 d.2.2.2)&&true))))) then
 some (false)
 else
 Zhn k b e (iop .add .i64 a 1)
 else
 some (true)):=by kernel_rfl
theorem Zsc (a b:LL):ZzH a b =
 (if (cop .neq (List.length a:Int) (List.length b:Int)) then
 some (false)
 else
 Zhn ZE a b 0):=by kernel_rfl
noncomputable def Ztu:Fn:=⟨26,[4],[(4,[(0,.c (.slice 2)),(1,.c (.slice 2)),(5,.c (.int .i64))])],[],0,[],[],Tryz.f154,[.c (.slice 2),.c (.slice 2)],[.c (.bool)],[]⟩
theorem ZxE:Ztu.S.Ok Tryz.prog 154:=Ztu.ok Tryz.func154 (by kernel_rfl) trivial
noncomputable def Zzr (a b:LL):Option (Bool):=Ztu.S.g [.l a,.l b]
noncomputable def Zg6 (k:Nat) (a b:LL) (c:Int):Option (Bool):=Ztu.lp [1,0] 0 r0 k [.l a,.l b,.i c]
theorem ZhB (k:Nat) (b c:LL) (a:Int):Zg6 (k+1) b c a =
 (if (cop .lss a (List.length b:Int)) then
 Zj b a [.int .i64,.int .i64] fun (d:Int×Int)=>
 Zj c a [.int .i64,.int .i64] fun (e:Int×Int)=>
 if (!((cop .eql d.1 e.1)&&((cop .eql d.2 e.2)&&true))) then
 some (false)
 else
 Zg6 k b c (iop .add .i64 a 1)
 else
 some (true)):=by kernel_rfl
theorem ZqT (a b:LL):Zzr a b =
 (if (cop .neq (List.length a:Int) (List.length b:Int)) then
 some (false)
 else
 Zg6 ZE a b 0):=by kernel_rfl
noncomputable def Zwd:Fn:=⟨55,[4],[(4,[(0,.c (.slice 13)),(1,.c (.slice 13)),(5,.c (.int .i64))])],[],0,[],[],Tryz.f155,[.c (.slice 13),.c (.slice 13)],[.c (.bool)],[(127,Zsp.S)]⟩
theorem Zyz:Zwd.S.Ok Tryz.prog 155:=Zwd.ok Tryz.func155 (by kernel_rfl) ⟨Zpc,trivial⟩
noncomputable def Zzk (a b:LL):Option (Bool):=Zwd.S.g [.l a,.l b]
noncomputable def ZgL (k:Nat) (a b:LL) (c:Int):Option (Bool):=Zwd.lp [1,0] 0 r0 k [.l a,.l b,.i c]
theorem Zgh (k:Nat) (d e:LL) (c:Int):ZgL (k+1) d e c =
 (if (cop .lss c (List.length d:Int)) then
 Zj d c hs12 fun (f:Qt25)=>
 Zj e c hs12 fun (g:Qt25)=>
 if (cop .neq f.1 g.1) then
 some (false)
 else
 Zj d c hs12 fun (h:Qt25)=>
 Zj e c hs12 fun (i:Qt25)=>
 if (cop .neq h.2.1 i.2.1) then
 some (false)
 else
 Zj d c hs12 fun (a:Qt25)=>
 Zj e c hs12 fun (b:Qt25)=>
 (Ztc a.2.2.1 a.2.2.2.1 a.2.2.2.2.1 a.2.2.2.2.2.1 a.2.2.2.2.2.2.1 a.2.2.2.2.2.2.2.1 a.2.2.2.2.2.2.2.2.1 a.2.2.2.2.2.2.2.2.2.1 a.2.2.2.2.2.2.2.2.2.2.1 a.2.2.2.2.2.2.2.2.2.2.2.1 (d4 (d8 a)) b.2.2.1 b.2.2.2.1 b.2.2.2.2.1 b.2.2.2.2.2.1 b.2.2.2.2.2.2.1 b.2.2.2.2.2.2.2.1 b.2.2.2.2.2.2.2.2.1 b.2.2.2.2.2.2.2.2.2.1 b.2.2.2.2.2.2.2.2.2.2.1 b.2.2.2.2.2.2.2.2.2.2.2.1 (d4 (d8 b))).bind fun j=>
 if (!j) then
 some (false)
 else
 ZgL k d e (iop .add .i64 c 1)
 else
 some (true)):=by kernel_rfl
theorem ZrG (a b:LL):Zzk a b =
 (if (cop .neq (List.length a:Int) (List.length b:Int)) then
 some (false)
 else
 ZgL ZE a b 0):=by kernel_rfl
noncomputable def F74:Fn:=⟨45,[4],[],[],0,[],[],Tryz.f74,[.agg hs30,.agg hs30],[.c (.bool)],[(151,ZtT.S),(152,Zvg.S),(153,Zv0.S),(154,Ztu.S),(155,Zwd.S),(69,F69.S)]⟩
theorem ZAO:F74.S.Ok Tryz.prog 74:=F74.ok Tryz.func74 (by kernel_rfl) ⟨ZyU,⟨ZyX,⟨ZzK,⟨ZxE,⟨Zyz,⟨ZyF,trivial⟩⟩⟩⟩⟩⟩
noncomputable def g74 (a b c d e f h i j k m n:LL):Option (Bool):=F74.S.g [.l a,.l b,.l c,.l d,.l e,.l f,.l h,.l i,.l j,.l k,.l m,.l n]
theorem ZvO (a b c d e f g h i j k l:LL):g74 a b c d e f g h i j k l =
 ((ZAe a g).bind fun m=>
 if m then
 (ZxU b h).bind fun n=>
 if n then
 (ZzH c i).bind fun o=>
 if o then
 (Zzr d j).bind fun p=>
 if p then
 (Zzk e k).bind fun q=>
 if q then
 (g69 f l).bind fun r=>
 some (r)
 else
 some (false)
 else
 some (false)
 else
 some (false)
 else
 some (false)
 else
 some (false)):=by kernel_rfl
noncomputable def F75:Fn:=⟨45,[4],[],[],0,[],[],Tryz.f75,[.agg hs7,.agg hs7],[.c (.bool)],[(73,F73.S),(74,F74.S)]⟩
theorem ZA2:F75.S.Ok Tryz.prog 75:=F75.ok Tryz.func75 (by kernel_rfl) ⟨ZAt,⟨ZAO,trivial⟩⟩
noncomputable def g75 (a c:Int) (d e f h j k m n:LL) (o:Bool) (p:Int) (q r s t u v w x:LL) (y z:Int) (A C D E G H J K:LL) (L:Bool) (M:Int) (N O P Q R T U V:LL):Option (Bool):=F75.S.g [.i a,.i c,.l d,.l e,.l f,.l h,.l j,.l k,.l m,.l n,.b o,.i p,.l q,.l r,.l s,.l t,.l u,.l v,.l w,.l x,.i y,.i z,.l A,.l C,.l D,.l E,.l G,.l H,.l J,.l K,.b L,.i M,.l N,.l O,.l P,.l Q,.l R,.l T,.l U,.l V]
theorem Zue (a b:Int) (c d e f g h i j:LL) (k:Bool) (l:Int) (m n o p q r s t:LL) (u v:Int) (w x y z A C D E:LL) (G:Bool) (H:Int) (J K L M N O P Q:LL):g75 a b c d e f g h i j k l m n o p q r s t u v w x y z A C D E G H J K L M N O P Q =
 (if (cop .eql a u) then
 (g73 b c d v w x).bind fun R=>
 if R then
 (g74 e f g h i j y z A C D E).bind fun T=>
 if T then
 if (k == G) then
 (g73 l m n H J K).bind fun U=>
 if U then
 (g74 o p q r s t L M N O P Q).bind fun V=>
 some (V)
 else
 some (false)
 else
 some (false)
 else
 some (false)
 else
 some (false)
 else
 some (false)):=by kernel_rfl
noncomputable def F19:Fn:=⟨134,[4],[],[],0,[],[],Tryz.f19,[.agg hs0,.agg hs0],[.c (.bool)],[(68,F68.S),(69,F69.S),(70,F70.S),(71,F71.S),(72,F72.S),(73,F73.S),(74,F74.S),(75,F75.S)]⟩
theorem ZAs:F19.S.Ok Tryz.prog 19:=F19.ok Tryz.func19 (by kernel_rfl) ⟨ZAv,⟨ZyF,⟨ZBk,⟨ZAz,⟨ZBQ,⟨ZAt,⟨ZAO,⟨ZA2,trivial⟩⟩⟩⟩⟩⟩⟩⟩
noncomputable def g19 (a c d e f h j k m n o:Int) (p:Bool) (q r s t u v w x y z A C D E G H J K L M:Int) (N:LL) (O P Q R T U:Int) (V:Bool) (W X Y Z:LL) (aa ab:Int) (ac ad ae af ag ah ai aj:LL) (ak al:Int) (am an ao ap aq ar aZ au:LL) (av:Bool) (aw:Int) (ax ay az a0 a1 a2 a3 a4:LL) (a5 a6 a7 a8 a9 ba bb bc bd be bf:Int) (bg:Bool) (bh bi bj bk bl bm bn bo bp bq br bs bt bu bv bw bx bz b0 b1:Int) (b2:LL) (b3 b4 b5 b6 b7 b8:Int) (b9:Bool) (ca cb cc cd:LL) (ce cf:Int) (cg ch ci cj ck cl cm cn:LL) (co cp:Int) (cq cr cs ct cu cv cw cx:LL) (cy:Bool) (cz:Int) (c0 c1 c2 c3 c4 c5 c6 c7:LL):Option (Bool):=F19.S.g [.i a,.i c,.i d,.i e,.i f,.i h,.i j,.i k,.i m,.i n,.i o,.b p,.i q,.i r,.i s,.i t,.i u,.i v,.i w,.i x,.i y,.i z,.i A,.i C,.i D,.i E,.i G,.i H,.i J,.i K,.i L,.i M,.l N,.i O,.i P,.i Q,.i R,.i T,.i U,.b V,.l W,.l X,.l Y,.l Z,.i aa,.i ab,.l ac,.l ad,.l ae,.l af,.l ag,.l ah,.l ai,.l aj,.i ak,.i al,.l am,.l an,.l ao,.l ap,.l aq,.l ar,.l aZ,.l au,.b av,.i aw,.l ax,.l ay,.l az,.l a0,.l a1,.l a2,.l a3,.l a4,.i a5,.i a6,.i a7,.i a8,.i a9,.i ba,.i bb,.i bc,.i bd,.i be,.i bf,.b bg,.i bh,.i bi,.i bj,.i bk,.i bl,.i bm,.i bn,.i bo,.i bp,.i bq,.i br,.i bs,.i bt,.i bu,.i bv,.i bw,.i bx,.i bz,.i b0,.i b1,.l b2,.i b3,.i b4,.i b5,.i b6,.i b7,.i b8,.b b9,.l ca,.l cb,.l cc,.l cd,.i ce,.i cf,.l cg,.l ch,.l ci,.l cj,.l ck,.l cl,.l cm,.l cn,.i co,.i cp,.l cq,.l cr,.l cs,.l ct,.l cu,.l cv,.l cw,.l cx,.b cy,.i cz,.l c0,.l c1,.l c2,.l c3,.l c4,.l c5,.l c6,.l c7]
theorem ZuN (a b c d e f g h i j k:Int) (l:Bool) (m n o p q r s t u v w x y z A C D E G H:Int) (J:LL) (K L M O P Q:Int) (R:Bool) (T U V W:LL) (X Y:Int) (Z aa ab ac ad ae af ag:LL) (ah ai:Int) (aj ak al am an ao ap aq:LL) (ar:Bool) (aZ:Int) (au av aw ax ay az a0 a1:LL) (a2 a3 a4 a5 a6 a7 a8 a9 ba bb bc:Int) (bd:Bool) (be bf bg bh bi bj bk bl bm bn bo bp bq br bs bt bu bv bw bx:Int) (bz:LL) (b0 b1 b2 b3 b4 b5:Int) (b6:Bool) (b7 b8 b9 ca:LL) (cb cc:Int) (cd ce cf cg ch ci cj ck:LL) (cl cm:Int) (cn co cp cq cr cs ct cu:LL) (cv:Bool) (cw:Int) (cx cy cz c0 c1 c2 c3 c4:LL):g19 a b c d e f g h i j k l m n o p q r s t u v w x y z A C D E G H J K L M O P Q R T U V W X Y Z aa ab ac ad ae af ag ah ai aj ak al am an ao ap aq ar aZ au av aw ax ay az a0 a1 a2 a3 a4 a5 a6 a7 a8 a9 ba bb bc bd be bf bg bh bi bj bk bl bm bn bo bp bq br bs bt bu bv bw bx bz b0 b1 b2 b3 b4 b5 b6 b7 b8 b9 ca cb cc cd ce cf cg ch ci cj ck cl cm cn co cp cq cr cs ct cu cv cw cx cy cz c0 c1 c2 c3 c4 =
 (if (cop .neq a a2) then
 some (false)
 else
 if (cop .neq b a3) then
 some (false)
 else
 if (cop .neq c a4) then
 some (false)
 else
 if (cop .neq d a5) then
 some (false)
 else
 if (cop .neq e a6) then
 some (false)
 else
 if (cop .neq f a7) then
 some (false)
 else
 if (cop .neq g a8) then
 some (false)
 else
 if (!((cop .eql h a9)&&((cop .eql i ba)&&((cop .eql j bb)&&true)))) then
 some (false)
 else
 if (cop .neq k bc) then
 some (false)
 else
 if (!(l == bd)) then
 some (false)
 else
 if (cop .neq X cb) then
 some (false)
 else
 (g68 m n o p q r s t u v w x y z A C D E G H J K L M O P Q R be bf bg bh bi bj bk bl bm bn bo bp bq br bs bt bu bv bw bx bz b0 b1 b2 b3 b4 b5 b6).bind fun c5=>
 if c5 then
 (g69 T b7).bind fun c6=>
 if c6 then
 (g70 U b8).bind fun c7=>
 if c7 then
 (g71 V b9).bind fun c8=>
 if c8 then
 (g72 W ca).bind fun c9=>
 if c9 then
 (g73 Y Z aa cc cd ce).bind fun da=>
 if da then
 (g74 ab ac ad ae af ag cf cg ch ci cj ck).bind fun db=>
 if db then
 (g75 ah ai aj ak al am an ao ap aq ar aZ au av aw ax ay az a0 a1 cl cm cn co cp cq cr cs ct cu cv cw cx cy cz c0 c1 c2 c3 c4).bind fun dc=>
 some (dc)
 else
 some (false)
 else
 some (false)
 else
 some (false)
 else
 some (false)
 else
 some (false)
 else
 some (false)
 else
 some (false)):=by kernel_rfl
end Go.Proofs.YtjldbnbdcmfbmaaGreat
