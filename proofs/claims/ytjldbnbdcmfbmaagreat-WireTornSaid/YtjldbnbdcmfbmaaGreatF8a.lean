/- Functions of the program, as what they compute. -/
import Derived.Test.YtjldbnbdcmfbmaaGreatGW8
namespace Go.Proofs.YtjldbnbdcmfbmaaGreat
open Go Go.AM
set_option linter.unusedVariables false
set_option maxRecDepth 100000
noncomputable def F32:Fn:=⟨44,[2,3],[],[],0,[],[],Tryz.f32,[.c (.int .i64)],[.c (.own false 89),.c (.bool)],[]⟩
theorem ZB5:F32.S.Ok Tryz.prog 32:=F32.ok Tryz.func32 (by kernel_rfl) trivial
noncomputable def g32 (a:Int):Option (LL×Bool):=F32.S.g [.i a]
theorem YO (a:Int):g32 a =
 (if (cop .eql a 1) then
 some (((E0++[[AV.val (.int .i64 0)]])++[[AV.val (.int .i64 1)]]),true)
 else
 if (cop .eql a 2) then
 some ((((((E0++[[AV.val (.int .i64 0)]])++[[AV.val (.int .i64 2)]])++[[AV.val (.int .i64 3)]])++[[AV.val (.int .i64 4)]])++[[AV.val (.int .i64 5)]]),true)
 else
 if (cop .eql a 3) then
 some (((E0++[[AV.val (.int .i64 0)]])++[[AV.val (.int .i64 2)]]),true)
 else
 if (cop .eql a 7) then
 some (((E0++[[AV.val (.int .i64 0)]])++[[AV.val (.int .i64 2)]]),true)
 else
 if (cop .eql a 8) then
 some (((E0++[[AV.val (.int .i64 0)]])++[[AV.val (.int .i64 2)]]),true)
 else
 if (cop .eql a 9) then
 some (((E0++[[AV.val (.int .i64 0)]])++[[AV.val (.int .i64 2)]]),true)
 else
 if (cop .eql a 10) then
 some (((E0++[[AV.val (.int .i64 0)]])++[[AV.val (.int .i64 2)]]),true)
 else
 if (cop .eql a 11) then
 some (((E0++[[AV.val (.int .i64 0)]])++[[AV.val (.int .i64 2)]]),true)
 else
 if (cop .eql a 4) then
 some (((((E0++[[AV.val (.int .i64 0)]])++[[AV.val (.int .i64 2)]])++[[AV.val (.int .i64 6)]])++[[AV.val (.int .i64 5)]]),true)
 else
 if (cop .eql a 5) then
 some ((((E0++[[AV.val (.int .i64 0)]])++[[AV.val (.int .i64 2)]])++[[AV.val (.int .i64 3)]]),true)
 else
 if (cop .eql a 6) then
 some ((((E0++[[AV.val (.int .i64 0)]])++[[AV.val (.int .i64 2)]])++[[AV.val (.int .i64 7)]]),true)
 else
 if (cop .eql a 12) then
 some (((E0++[[AV.val (.int .i64 8)]])++[[AV.val (.int .i64 9)]]),true)
 else
 if (cop .eql a 13) then
 some (((E0++[[AV.val (.int .i64 8)]])++[[AV.val (.int .i64 10)]]),true)
 else
 if (cop .eql a 14) then
 some ((((((E0++[[AV.val (.int .i64 8)]])++[[AV.val (.int .i64 11)]])++[[AV.val (.int .i64 9)]])++[[AV.val (.int .i64 12)]])++[[AV.val (.int .i64 13)]]),true)
 else
 if (cop .eql a 15) then
 some ((E0++[[AV.val (.int .i64 8)]]),true)
 else
 if (cop .eql a 16) then
 some ((E0++[[AV.val (.int .i64 8)]]),true)
 else
 if (cop .eql a 17) then
 some (((E0++[[AV.val (.int .i64 9)]])++[[AV.val (.int .i64 14)]]),true)
 else
 some (E0,false)):=by kernel_rfl
noncomputable def F33:Fn:=⟨9,[2],[],[],0,[],[],Tryz.f33,[.c (.int .i64)],[.c (.bool)],[]⟩
theorem Zz7:F33.S.Ok Tryz.prog 33:=F33.ok Tryz.func33 (by kernel_rfl) trivial
noncomputable def g33 (a:Int):Option (Bool):=F33.S.g [.i a]
theorem Zxr (a:Int):g33 a =
 (if (cop .geq a 0) then
 some ((cop .leq a 1073741824))
 else
 some (false)):=by kernel_rfl
noncomputable def F34:Fn:=⟨9,[2],[],[],0,[],[],Tryz.f34,[.c (.int .i64)],[.c (.bool)],[]⟩
theorem Zsa:F34.S.Ok Tryz.prog 34:=F34.ok Tryz.func34 (by kernel_rfl) trivial
noncomputable def g34 (a:Int):Option (Bool):=F34.S.g [.i a]
theorem Zwv (a:Int):g34 a =
 (if (cop .geq a 0) then
 some ((cop .lss a 32))
 else
 some (false)):=by kernel_rfl
noncomputable def F89:Fn:=⟨9,[2],[],[],0,[],[],Tryz.f89,[.c (.int .i64)],[.c (.bool)],[]⟩
theorem Zy6:F89.S.Ok Tryz.prog 89:=F89.ok Tryz.func89 (by kernel_rfl) trivial
noncomputable def g89 (a:Int):Option (Bool):=F89.S.g [.i a]
theorem Zwr (a:Int):g89 a =
 (if (cop .geq a 0) then
 some ((cop .lss a 16))
 else
 some (false)):=by kernel_rfl
noncomputable def F99:Fn:=⟨31,[2],[],[],0,[],[],Tryz.f99,[.agg [.int .i64,.int .i64,.int .i64]],[.c (.bool)],[]⟩
theorem Zzz:F99.S.Ok Tryz.prog 99:=F99.ok Tryz.func99 (by kernel_rfl) trivial
noncomputable def g99 (a b c:Int):Option (Bool):=F99.S.g [.i a,.i b,.i c]
theorem ZxO (a b c:Int):g99 a b c =
 (if (cop .geq a 0) then
 if (cop .lss a 32) then
 if (cop .geq b 1) then
 if (cop .leq b 1073741824) then
 if (cop .geq c 0) then
 some ((cop .lss c 8))
 else
 some (false)
 else
 some (false)
 else
 some (false)
 else
 some (false)
 else
 some (false)):=by kernel_rfl
noncomputable def F91:Fn:=⟨10,[2],[],[],0,[],[],Tryz.f91,[.agg [.int .i64,.int .i64,.int .i64]],[.c (.bool)],[(99,F99.S)]⟩
theorem Zy5:F91.S.Ok Tryz.prog 91:=F91.ok Tryz.func91 (by kernel_rfl) ⟨Zzz,trivial⟩
noncomputable def g91 (a b c:Int):Option (Bool):=F91.S.g [.i a,.i b,.i c]
theorem Zw7 (b c a:Int):g91 b c a =
 ((g99 b c a).bind fun d=>
 if d then
 some ((cop .eql a 0))
 else
 some (false)):=by kernel_rfl
noncomputable def Zwg:Fn:=⟨26,[4],[(4,[(0,.c (.slice 3)),(1,.c (.slice 3)),(12,.c (.int .i64)),(13,.c (.int .i64))])],[],0,[],[],Tryz.f196,[.c (.slice 3),.c (.slice 3)],[.c (.bool)],[]⟩
theorem Zz8:Zwg.S.Ok Tryz.prog 196:=Zwg.ok Tryz.func196 (by kernel_rfl) trivial
noncomputable def ZzT (a b:LL):Option (Bool):=Zwg.S.g [.l a,.l b]
noncomputable def Zdd (k:Nat) (a b:LL) (c d:Int):Option (Bool):=Zwg.lp [1,0] 0 r0 k [.l a,.l b,.i c,.i d]
theorem ZhA (k:Nat) (b c:LL) (d a:Int):Zdd (k+1) b c d a =
 (if (cop .lss a d) then
 Zm b a [.int .i64,.int .i64,.int .i64] fun (e:Int×Int×Int)=>
 Zm c a [.int .i64,.int .i64,.int .i64] fun (f:Int×Int×Int)=>
 if (!((cop .eql e.1 f.1)&&((cop .eql e.2.1 f.2.1)&&((cop .eql e.2.2 f.2.2)&&true)))) then
 some (false)
 else
 Zdd k b c d (iop .add .i64 a 1)
 else
 some (true)):=by kernel_rfl
theorem ZsY (a b:LL):ZzT a b =
 (if (cop .neq (List.length a:Int) (List.length b:Int)) then
 some (false)
 else
 Zdd ZB a b (List.length a:Int) 0):=by kernel_rfl
noncomputable def Zu6:Fn:=⟨24,[4],[],[],0,[],[],Tryz.f164,[.agg hs16,.agg hs16],[.c (.bool)],[(196,Zwg.S)]⟩
theorem Zr2:Zu6.S.Ok Tryz.prog 164:=Zu6.ok Tryz.func164 (by kernel_rfl) ⟨Zz8,trivial⟩
noncomputable def ZtX (a c d:Int) (e:LL) (f h j k m n:Int) (o:Bool) (p q r:Int) (s:LL) (t u v w x y:Int) (z:Bool):Option (Bool):=Zu6.S.g [.i a,.i c,.i d,.l e,.i f,.i h,.i j,.i k,.i m,.i n,.b o,.i p,.i q,.i r,.l s,.i t,.i u,.i v,.i w,.i x,.i y,.b z]
theorem Zua (a b c:Int) (d:LL) (e f g h i j:Int) (k:Bool) (l m n:Int) (o:LL) (p q r s t u:Int) (v:Bool):ZtX a b c d e f g h i j k l m n o p q r s t u v =
 (if ((cop .eql a l)&&((cop .eql b m)&&((cop .eql c n)&&true))) then
 if ((cop .eql e p)&&((cop .eql f q)&&((cop .eql g r)&&((cop .eql h s)&&((cop .eql i t)&&((cop .eql j u)&&((k == v)&&true))))))) then
 (ZzT d o).bind fun w=>
 some (w)
 else
 some (false)
 else
 some (false)):=by kernel_rfl
noncomputable def Zzp:Fn:=⟨38,[4],[],[],0,[],[],Tryz.f197,[.c (.int .i64),.c (.int .i64)],[.c (.bool)],[]⟩
theorem ZBD:Zzp.S.Ok Tryz.prog 197:=Zzp.ok Tryz.func197 (by kernel_rfl) trivial
noncomputable def ZCd (a b:Int):Option (Bool):=Zzp.S.g [.i a,.i b]
theorem ZtG (b a:Int):ZCd b a =
 (if (cop .eql b 1) then
 if (cop .geq a 6) then
 some ((cop .leq a 40))
 else
 some (false)
 else
 if (cop .eql b 2) then
 if (cop .geq a 12) then
 some ((cop .leq a 40))
 else
 some (false)
 else
 if (cop .eql b 3) then
 some ((cop .eql a 12))
 else
 if (cop .eql b 4) then
 some ((cop .eql a 6))
 else
 if (cop .eql b 5) then
 some ((cop .eql a 10))
 else
 if (cop .eql b 6) then
 some ((cop .eql a 16))
 else
 some (false)):=by kernel_rfl
noncomputable def ZyH:Fn:=⟨8,[2],[],[],0,[],[],Tryz.f199,[.agg hs27],[.agg [.int .i64,.int .i64]],[]⟩
theorem ZBT:ZyH.S.Ok Tryz.prog 199:=ZyH.ok Tryz.func199 (by kernel_rfl) trivial
noncomputable def ZCE (a c d e f h:Int) (j:Bool):Option (Int×Int):=ZyH.S.g [.i a,.i c,.i d,.i e,.i f,.i h,.b j]
theorem ZsZ (c a b d e f:Int) (g:Bool):ZCE c a b d e f g =
 (some (a,b)):=by kernel_rfl
noncomputable def Zyy:Fn:=⟨32,[2],[],[],0,[],[],Tryz.f198,[.agg [.int .i64,.int .i64]],[.c (.bool)],[]⟩
theorem ZBz:Zyy.S.Ok Tryz.prog 198:=Zyy.ok Tryz.func198 (by kernel_rfl) trivial
noncomputable def ZAZ (a b:Int):Option (Bool):=Zyy.S.g [.i a,.i b]
theorem Zsk (b a:Int):ZAZ b a =
 (if (cop .lss a 6) then
 some (false)
 else
 if (cop .gtr a 40) then
 some (false)
 else
 if (cop .lss b 0) then
 some (false)
 else
 Zz ((0:Int)≤a)<|
 Zz (((iop .shl .i64 1 a):Int)≠0)<|
 if (cop .eql (iop .rem .i64 b (iop .shl .i64 1 a)) 0) then
 some ((cop .leq b (iop .sub .i64 1099511627776 (iop .shl .i64 1 a))))
 else
 some (false)):=by kernel_rfl
noncomputable def Zzv:Fn:=⟨22,[4],[],[],0,[],[],Tryz.f200,[.c (.int .i64),.c (.int .i64)],[.c (.bool)],[]⟩
theorem ZCf:Zzv.S.Ok Tryz.prog 200:=Zzv.ok Tryz.func200 (by kernel_rfl) trivial
noncomputable def ZAO (a b:Int):Option (Bool):=Zzv.S.g [.i a,.i b]
theorem ZtE (b a:Int):ZAO b a =
 (if (cop .eql b 32) then
 if (cop .geq a 0) then
 some ((cop .leq a 1))
 else
 some (false)
 else
 if (cop .eql b 39) then
 if (cop .geq a 0) then
 some ((cop .leq a 2))
 else
 some (false)
 else
 some (false)):=by kernel_rfl
noncomputable def ZuH:Fn:=⟨55,[2],[],[],0,[],[],Tryz.f166,[.agg hs27],[.c (.bool)],[(197,Zzp.S),(199,ZyH.S),(198,Zyy.S),(200,Zzv.S)]⟩
theorem ZsS:ZuH.S.Ok Tryz.prog 166:=ZuH.ok Tryz.func166 (by kernel_rfl) ⟨ZBD,⟨ZBT,⟨ZBz,⟨ZCf,trivial⟩⟩⟩⟩
noncomputable def Zx7 (a c d e f h:Int) (j:Bool):Option (Bool):=ZuH.S.g [.i a,.i c,.i d,.i e,.i f,.i h,.b j]
theorem ZsJ (a g f b c d:Int) (e:Bool):Zx7 a g f b c d e =
 ((ZCd a f).bind fun i=>
 if (!i) then
 some (false)
 else
 (ZCE a g f b c d e).bind fun h=>
 (ZAZ h.1 h.2).bind fun j=>
 if (!j) then
 some (false)
 else
 if (cop .lss b 0) then
 some (false)
 else
 if (cop .gtr b 7) then
 some (false)
 else
 if (cop .eql a 3) then
 (ZAO c d).bind fun k=>
 if (!k) then
 some (false)
 else
 if (!e) then
 some (true)
 else
 if (cop .eql a 1) then
 some (true)
 else
 some ((cop .eql a 2))
 else
 if (cop .neq c 0) then
 some (false)
 else
 if (cop .neq d 0) then
 some (false)
 else
 if (!e) then
 some (true)
 else
 if (cop .eql a 1) then
 some (true)
 else
 some ((cop .eql a 2))):=by kernel_rfl
noncomputable def Zvz:Fn:=⟨19,[4],[(2,[(0,.c (.slice 3)),(3,.box [.int .i64,.int .i64,.int .i64]),(7,.c (.int .i64)),(8,.c (.int .i64))])],[],0,[],[],Tryz.f201,[.c (.slice 3),.agg [.int .i64,.int .i64,.int .i64]],[.c (.int .i64)],[]⟩
theorem ZBu:Zvz.S.Ok Tryz.prog 201:=Zvz.ok Tryz.func201 (by kernel_rfl) trivial
noncomputable def ZC1 (a:LL) (b c d:Int):Option (Int):=Zvz.S.g [.l a,.i b,.i c,.i d]
noncomputable def Zhl (k:Nat) (a:LL) (b c d e f:Int):Option (Int):=Zvz.lp [0] 0 r0 k [.l a,.i b,.i c,.i d,.i e,.i f]
theorem ZgZ (k:Nat) (b:LL) (c d e f a:Int):Zhl (k+1) b c d e f a =
 (if (cop .lss a f) then
 Zm b a [.int .i64,.int .i64,.int .i64] fun (g:Int×Int×Int)=>
 if ((cop .eql c g.1)&&((cop .eql d g.2.1)&&((cop .eql e g.2.2)&&true))) then
 some (a)
 else
 Zhl k b c d e f (iop .add .i64 a 1)
 else
 some ((-1))):=by kernel_rfl
theorem Zrx (a:LL) (b c d:Int):ZC1 a b c d =
 (Zhl ZB a b c d (List.length a:Int) 0):=by kernel_rfl
noncomputable def Zzh:Fn:=⟨9,[4],[],[],0,[],[],Tryz.f167,[.c (.slice 3),.agg [.int .i64,.int .i64,.int .i64]],[.c (.bool)],[(201,Zvz.S)]⟩
theorem ZBe:Zzh.S.Ok Tryz.prog 167:=Zzh.ok Tryz.func167 (by kernel_rfl) ⟨ZBu,trivial⟩
noncomputable def ZAS (a:LL) (b c d:Int):Option (Bool):=Zzh.S.g [.l a,.i b,.i c,.i d]
theorem ZrX (a:LL) (b c d:Int):ZAS a b c d =
 ((ZC1 a b c d).bind fun e=>
 some ((cop .geq e 0))):=by kernel_rfl
noncomputable def F95:Fn:=⟨47,[2],[(4,[(1,.box hs16),(22,.c (.slice 3)),(23,.c (.int .i64)),(24,.c (.int .i64))])],[],0,[],[],Tryz.f95,[.agg hs16],[.c (.bool)],[(99,F99.S),(166,ZuH.S),(167,Zzh.S)]⟩
theorem ZuO:F95.S.Ok Tryz.prog 95:=F95.ok Tryz.func95 (by kernel_rfl) ⟨Zzz,⟨ZsS,⟨ZBe,trivial⟩⟩⟩
noncomputable def g95 (a c d:Int) (e:LL) (f h j k m n:Int) (o:Bool):Option (Bool):=F95.S.g [.i a,.i c,.i d,.l e,.i f,.i h,.i j,.i k,.i m,.i n,.b o]
noncomputable def Zpo (k:Nat) (a c d:Int) (e:LL) (f g h j m n:Int) (o:Bool) (p:LL) (q r:Int):Option (Bool):=F95.lp [0,1,0,1,1,0] 0 r0 k [.i a,.i c,.i d,.l e,.i f,.i g,.i h,.i j,.i m,.i n,.b o,.l p,.i q,.i r]
theorem ZkS (k:Nat) (d e f:Int) (c:LL) (i j l m n o:Int) (p:Bool) (g:LL) (h b:Int):Zpo (k+1) d e f c i j l m n o p g h b =
 (if (cop .lss b h) then
 Zm g b [.int .i64,.int .i64,.int .i64] fun (a:Int×Int×Int)=>
 (g99 a.1 a.2.1 a.2.2).bind fun q=>
 if (!q) then
 some (false)
 else
 if ((cop .eql a.1 d)&&((cop .eql a.2.1 e)&&((cop .eql a.2.2 f)&&true))) then
 some (false)
 else
 Zz ((0:Int)≤b)<|
 Zz ((b:Int)≤(List.length c:Int))<|
 (ZAS (List.take (Int.toNat b) c) a.1 a.2.1 a.2.2).bind fun r=>
 if r then
 some (false)
 else
 Zpo k d e f c i j l m n o p g h (iop .add .i64 b 1)
 else
 some (true)):=by kernel_rfl
theorem Zyr (b c d:Int) (a:LL) (e f g h i j:Int) (k:Bool):g95 b c d a e f g h i j k =
 ((g99 b c d).bind fun l=>
 if (!l) then
 some (false)
 else
 (Zx7 e f g h i j k).bind fun m=>
 if (!m) then
 some (false)
 else
 if (cop .gtr (List.length a:Int) 8) then
 some (false)
 else
 Zpo ZB b c d a e f g h i j k a (List.length a:Int) 0):=by kernel_rfl
noncomputable def F90:Fn:=⟨46,[2],[],[],0,[],[],Tryz.f90,[.agg hs6],[.c (.bool)],[(91,F91.S),(89,F89.S),(164,Zu6.S),(95,F95.S)]⟩
theorem ZCR:F90.S.Ok Tryz.prog 90:=F90.ok Tryz.func90 (by kernel_rfl) ⟨Zy5,⟨Zy6,⟨Zr2,⟨ZuO,trivial⟩⟩⟩⟩
noncomputable def g90 (a c d e f h j k m n o p q r s t u v w x:Int) (y:LL) (z A C D E G:Int) (H:Bool):Option (Bool):=F90.S.g [.i a,.i c,.i d,.i e,.i f,.i h,.i j,.i k,.i m,.i n,.i o,.i p,.i q,.i r,.i s,.i t,.i u,.i v,.i w,.i x,.l y,.i z,.i A,.i C,.i D,.i E,.i G,.b H]
theorem Zvo (o p q b s t u v w x y z A C D r n c d e:Int) (f:LL) (g h i j k l:Int) (m:Bool):g90 o p q b s t u v w x y z A C D r n c d e f g h i j k l m =
 ((g91 o p q).bind fun E=>
 if (!E) then
 some (false)
 else
 if (cop .lss b 1) then
 some (false)
 else
 if (cop .gtr b 6) then
 some (false)
 else
 (g89 r).bind fun G=>
 if (!G) then
 some (false)
 else
 if (cop .neq n 32) then
 if (cop .neq n 39) then
 some (false)
 else
 if (cop .eql b 1) then
 (ZtX c d e f g h i j k l m 0 0 0 E0 0 0 0 0 0 0 false).bind fun a=>
 some (a)
 else
 (g95 c d e f g h i j k l m).bind fun a=>
 some (a)
 else
 if (cop .eql b 1) then
 (ZtX c d e f g h i j k l m 0 0 0 E0 0 0 0 0 0 0 false).bind fun a=>
 some (a)
 else
 (g95 c d e f g h i j k l m).bind fun a=>
 some (a)):=by kernel_rfl
noncomputable def F92:Fn:=⟨9,[2],[],[],0,[],[],Tryz.f92,[.c (.int .i64)],[.c (.bool)],[]⟩
theorem ZC5:F92.S.Ok Tryz.prog 92:=F92.ok Tryz.func92 (by kernel_rfl) trivial
noncomputable def g92 (a:Int):Option (Bool):=F92.S.g [.i a]
theorem ZvH (a:Int):g92 a =
 (if (cop .geq a 0) then
 some ((cop .leq a 99))
 else
 some (false)):=by kernel_rfl
noncomputable def F96:Fn:=⟨9,[2],[],[],0,[],[],Tryz.f96,[.c (.int .i64)],[.c (.bool)],[]⟩
theorem ZC3:F96.S.Ok Tryz.prog 96:=F96.ok Tryz.func96 (by kernel_rfl) trivial
noncomputable def g96 (a:Int):Option (Bool):=F96.S.g [.i a]
theorem Zyf (a:Int):g96 a =
 (if (cop .geq a 0) then
 some ((cop .lss a 64))
 else
 some (false)):=by kernel_rfl
noncomputable def Zxv:Fn:=⟨19,[4],[(2,[(0,.c (.slice 1)),(1,.c (.int .i64)),(7,.c (.int .i64)),(8,.c (.int .i64))])],[],0,[],[],Tryz.f202,[.c (.slice 1),.c (.int .i64)],[.c (.int .i64)],[]⟩
theorem ZAY:Zxv.S.Ok Tryz.prog 202:=Zxv.ok Tryz.func202 (by kernel_rfl) trivial
noncomputable def ZCa (a:LL) (b:Int):Option (Int):=Zxv.S.g [.l a,.i b]
noncomputable def ZeR (k:Nat) (a:LL) (b c d:Int):Option (Int):=Zxv.lp [0] 0 r0 k [.l a,.i b,.i c,.i d]
theorem Zic (k:Nat) (b:LL) (c d a:Int):ZeR (k+1) b c d a =
 (if (cop .lss a d) then
 Zm b a [.int .i64] fun (e:Int)=>
 if (cop .eql c e) then
 some (a)
 else
 ZeR k b c d (iop .add .i64 a 1)
 else
 some ((-1))):=by kernel_rfl
theorem ZtN (a:LL) (b:Int):ZCa a b =
 (ZeR ZB a b (List.length a:Int) 0):=by kernel_rfl
noncomputable def Zza:Fn:=⟨9,[4],[],[],0,[],[],Tryz.f170,[.c (.slice 1),.c (.int .i64)],[.c (.bool)],[(202,Zxv.S)]⟩
theorem ZCk:Zza.S.Ok Tryz.prog 170:=Zza.ok Tryz.func170 (by kernel_rfl) ⟨ZAY,trivial⟩
noncomputable def ZzJ (a:LL) (b:Int):Option (Bool):=Zza.S.g [.l a,.i b]
theorem ZsR (a:LL) (b:Int):ZzJ a b =
 ((ZCa a b).bind fun c=>
 some ((cop .geq c 0))):=by kernel_rfl
noncomputable def Zzc:Fn:=⟨6,[2],[],[],0,[],[],Tryz.f171,[.c (.int .i64)],[.c (.bool)],[(34,F34.S)]⟩
theorem ZBZ:Zzc.S.Ok Tryz.prog 171:=Zzc.ok Tryz.func171 (by kernel_rfl) ⟨Zsa,trivial⟩
noncomputable def ZCh (a:Int):Option (Bool):=Zzc.S.g [.i a]
theorem Ztq (a:Int):ZCh a =
 ((g34 a).bind fun b=>
 some ((!b))):=by kernel_rfl
noncomputable def ZaE:Fn:=⟨19,[4],[(2,[(0,.c (.slice 1)),(1,.clo 171 []),(7,.c (.int .i64)),(8,.c (.int .i64))])],[],0,[],[],Tryz.f169,[.c (.slice 1),.clo 171 []],[.c (.int .i64)],[(171,Zzc.S)]⟩
theorem Zmu:ZaE.S.Ok Tryz.prog 169:=ZaE.ok Tryz.func169 (by kernel_rfl) ⟨ZBZ,trivial⟩
noncomputable def ZfQ (a:LL):Option (Int):=ZaE.S.g [.l a]
noncomputable def Ky (k:Nat) (a:LL) (b c:Int):Option (Int):=ZaE.lp [0] 0 r0 k [.l a,.i b,.i c]
theorem ZaB (k:Nat) (b:LL) (c a:Int):Ky (k+1) b c a =
 (if (cop .lss a c) then
 Zm b a [.int .i64] fun (d:Int)=>
 (ZCh d).bind fun e=>
 if e then
 some (a)
 else
 Ky k b c (iop .add .i64 a 1)
 else
 some ((-1))):=by kernel_rfl
theorem ZiP (a:LL):ZfQ a =
 (Ky ZB a (List.length a:Int) 0):=by kernel_rfl
noncomputable def Zck:Fn:=⟨9,[4],[],[],0,[],[],Tryz.f100,[.c (.slice 1),.clo 171 []],[.c (.bool)],[(169,ZaE.S)]⟩
theorem Zn9:Zck.S.Ok Tryz.prog 100:=Zck.ok Tryz.func100 (by kernel_rfl) ⟨Zmu,trivial⟩
noncomputable def ZfO (a:LL):Option (Bool):=Zck.S.g [.l a]
theorem Zji (a:LL):ZfO a =
 ((ZfQ a).bind fun b=>
 some ((cop .geq b 0))):=by kernel_rfl
noncomputable def ZuJ:Fn:=⟨45,[2],[(4,[(1,.box [.int .i64,.slice 1,.slice 1]),(22,.c (.slice 1)),(23,.c (.int .i64)),(24,.c (.int .i64))])],[],0,[],[],Tryz.f105,[.agg [.int .i64,.slice 1,.slice 1]],[.c (.bool)],[(33,F33.S),(34,F34.S),(170,Zza.S),(100,Zck.S)]⟩
theorem Zvy:ZuJ.S.Ok Tryz.prog 105:=ZuJ.ok Tryz.func105 (by kernel_rfl) ⟨Zz7,⟨Zsa,⟨ZCk,⟨Zn9,trivial⟩⟩⟩⟩
noncomputable def Zyj (a:Int) (b c:LL):Option (Bool):=ZuJ.S.g [.i a,.l b,.l c]
noncomputable def Zdx (k:Nat) (a:Int) (b c d:LL) (e f:Int):Option (Bool):=ZuJ.lp [0,1,1,1,0] 0 r0 k [.i a,.l b,.l c,.l d,.i e,.i f]
theorem Zil (k:Nat) (g:Int) (b d e:LL) (f a:Int):Zdx (k+1) g b d e f a =
 (if (cop .lss a f) then
 Zm e a [.int .i64] fun (c:Int)=>
 (g34 c).bind fun h=>
 if (!h) then
 some (false)
 else
 Zz ((0:Int)≤a)<|
 Zz ((a:Int)≤(List.length b:Int))<|
 (ZzJ (List.take (Int.toNat a) b) c).bind fun i=>
 if i then
 some (false)
 else
 Zdx k g b d e f (iop .add .i64 a 1)
 else
 (ZfO d).bind fun c=>
 some ((!c))):=by kernel_rfl
theorem ZsE (b:Int) (a c:LL):Zyj b a c =
 ((g33 b).bind fun d=>
 if (!d) then
 some (false)
 else
 if (cop .gtr (List.length a:Int) 32) then
 some (false)
 else
 if (cop .gtr (List.length c:Int) 16) then
 some (false)
 else
 Zdx ZB b a c a (List.length a:Int) 0):=by kernel_rfl
noncomputable def ZxE:Fn:=⟨8,[2],[],[],0,[],[],Tryz.f225,[.agg hs11],[.c (.bool)],[]⟩
theorem Zvl:ZxE.S.Ok Tryz.prog 225:=ZxE.ok Tryz.func225 (by kernel_rfl) trivial
noncomputable def Zz9 (a c d:Int) (e:LL) (f h j k m n:Int) (o:Bool) (p q r s:Int):Option (Bool):=ZxE.S.g [.i a,.i c,.i d,.l e,.i f,.i h,.i j,.i k,.i m,.i n,.b o,.i p,.i q,.i r,.i s]
theorem Znc (a b c:Int) (d:LL) (e f g h i j:Int) (k:Bool) (l m n o:Int):Zz9 a b c d e f g h i j k l m n o =
 (some (((cop .eql a 0)&&((cop .eql b 0)&&((cop .eql c 0)&&true))))):=by kernel_rfl
noncomputable def ZyN:Fn:=⟨43,[2],[],[],0,[],[],Tryz.f203,[.agg hs11],[.c (.bool)],[(225,ZxE.S),(164,Zu6.S),(95,F95.S),(99,F99.S)]⟩
theorem ZAV:ZyN.S.Ok Tryz.prog 203:=ZyN.ok Tryz.func203 (by kernel_rfl) ⟨Zvl,⟨Zr2,⟨ZuO,⟨Zzz,trivial⟩⟩⟩⟩
noncomputable def ZAu (a c d:Int) (e:LL) (f h j k m n:Int) (o:Bool) (p q r s:Int):Option (Bool):=ZyN.S.g [.i a,.i c,.i d,.l e,.i f,.i h,.i j,.i k,.i m,.i n,.b o,.i p,.i q,.i r,.i s]
theorem ZrU (d e f:Int) (g:LL) (h i j k l m:Int) (n:Bool) (o b c a:Int):ZAu d e f g h i j k l m n o b c a =
 (if (cop .lss o 0) then
 some (false)
 else
 if (cop .gtr o 1073741824) then
 some (false)
 else
 (Zz9 d e f g h i j k l m n o b c a).bind fun q=>
 if q then
 (ZtX d e f g h i j k l m n 0 0 0 E0 0 0 0 0 0 0 false).bind fun p=>
 if p then
 some (((cop .eql b 0)&&((cop .eql c 0)&&((cop .eql a 0)&&true))))
 else
 some (false)
 else
 (g95 d e f g h i j k l m n).bind fun p=>
 if p then
 if ((cop .eql b 0)&&((cop .eql c 0)&&((cop .eql a 0)&&true))) then
 some (true)
 else
 (g99 b c a).bind fun r=>
 if r then
 some ((cop .eql a 0))
 else
 some (false)
 else
 some (false)):=by kernel_rfl
noncomputable def ZwK:Fn:=⟨27,[4,5],[(2,[(3,.box [.int .i64,.int .i64,.int .i64]),(8,.c (.slice 15)),(9,.c (.int .i64)),(10,.c (.int .i64))])],[],0,[],[],Tryz.f204,[.c (.slice 15),.agg [.int .i64,.int .i64,.int .i64]],[.c (.int .i64),.c (.bool)],[(225,ZxE.S)]⟩
theorem ZB1:ZwK.S.Ok Tryz.prog 204:=ZwK.ok Tryz.func204 (by kernel_rfl) ⟨Zvl,trivial⟩
noncomputable def ZBN (a:LL) (b c d:Int):Option (Int×Bool):=ZwK.S.g [.l a,.i b,.i c,.i d]
noncomputable def Zcs (k:Nat) (a b c:Int) (d:LL) (e f:Int):Option (Int×Bool):=ZwK.lp [0] 0 r0 k [.i a,.i b,.i c,.l d,.i e,.i f]
theorem Zg2 (k:Nat) (c d e:Int) (f:LL) (g b:Int):Zcs (k+1) c d e f g b =
 (if (cop .lss b g) then
 Zm f b hs11 fun (a:Qt21)=>
 (Zz9 a.1 a.2.1 a.2.2.1 a.2.2.2.1 a.2.2.2.2.1 a.2.2.2.2.2.1 a.2.2.2.2.2.2.1 a.2.2.2.2.2.2.2.1 a.2.2.2.2.2.2.2.2.1 a.2.2.2.2.2.2.2.2.2.1 a.2.2.2.2.2.2.2.2.2.2.1 a.2.2.2.2.2.2.2.2.2.2.2.1 (d4 (d8 a)).1 (d4 (d8 a)).2.1 (d2 (d4 (d8 a)))).bind fun h=>
 if (!h) then
 if ((cop .eql a.1 c)&&((cop .eql a.2.1 d)&&((cop .eql a.2.2.1 e)&&true))) then
 some (b,true)
 else
 Zcs k c d e f g (iop .add .i64 b 1)
 else
 Zcs k c d e f g (iop .add .i64 b 1)
 else
 some (0,false)):=by kernel_rfl
theorem ZtV (a:LL) (b c d:Int):ZBN a b c d =
 (Zcs ZB b c d a (List.length a:Int) 0):=by kernel_rfl
noncomputable def Zxo:Fn:=⟨32,[2],[(4,[(0,.c (.slice 15)),(10,.c (.slice 15)),(11,.c (.int .i64)),(12,.c (.int .i64))])],[],0,[],[],Tryz.f172,[.c (.slice 15)],[.c (.bool)],[(203,ZyN.S),(204,ZwK.S)]⟩
theorem ZAa:Zxo.S.Ok Tryz.prog 172:=Zxo.ok Tryz.func172 (by kernel_rfl) ⟨ZAV,⟨ZB1,trivial⟩⟩
noncomputable def ZzK (a:LL):Option (Bool):=Zxo.S.g [.l a]
noncomputable def Zeg (k:Nat) (a b:LL) (c d:Int):Option (Bool):=Zxo.lp [1,0] 0 r0 k [.l a,.l b,.i c,.i d]
theorem Zg6 (k:Nat) (c d:LL) (e b:Int):Zeg (k+1) c d e b =
 (if (cop .lss b e) then
 Zm d b hs11 fun (a:Qt21)=>
 (ZAu a.1 a.2.1 a.2.2.1 a.2.2.2.1 a.2.2.2.2.1 a.2.2.2.2.2.1 a.2.2.2.2.2.2.1 a.2.2.2.2.2.2.2.1 a.2.2.2.2.2.2.2.2.1 a.2.2.2.2.2.2.2.2.2.1 a.2.2.2.2.2.2.2.2.2.2.1 a.2.2.2.2.2.2.2.2.2.2.2.1 (d4 (d8 a)).1 (d4 (d8 a)).2.1 (d2 (d4 (d8 a)))).bind fun f=>
 if (!f) then
 some (false)
 else
 Zz ((0:Int)≤b)<|
 Zz ((b:Int)≤(List.length c:Int))<|
 (ZBN (List.take (Int.toNat b) c) a.1 a.2.1 a.2.2.1).bind fun g=>
 if g.2 then
 some (false)
 else
 Zeg k c d e (iop .add .i64 b 1)
 else
 some (true)):=by kernel_rfl
theorem ZrK (a:LL):ZzK a =
 (if (cop .gtr (List.length a:Int) 64) then
 some (false)
 else
 Zeg ZB a a (List.length a:Int) 0):=by kernel_rfl
noncomputable def Zzs:Fn:=⟨6,[2],[],[],0,[],[],Tryz.f206,[.agg hs6],[.c (.bool)],[(90,F90.S)]⟩
theorem ZCt:Zzs.S.Ok Tryz.prog 206:=Zzs.ok Tryz.func206 (by kernel_rfl) ⟨ZCR,trivial⟩
noncomputable def ZAp (a c d e f h j k m n o p q r s t u v w x:Int) (y:LL) (z A C D E G:Int) (H:Bool):Option (Bool):=Zzs.S.g [.i a,.i c,.i d,.i e,.i f,.i h,.i j,.i k,.i m,.i n,.i o,.i p,.i q,.i r,.i s,.i t,.i u,.i v,.i w,.i x,.l y,.i z,.i A,.i C,.i D,.i E,.i G,.b H]
theorem Zrr (a b c d e f g h i j k l m n o p q r s t:Int) (u:LL) (v w x y z A:Int) (C:Bool):ZAp a b c d e f g h i j k l m n o p q r s t u v w x y z A C =
 ((g90 a b c d e f g h i j k l m n o p q r s t u v w x y z A C).bind fun D=>
 some ((!D))):=by kernel_rfl
noncomputable def ZaH:Fn:=⟨19,[4],[(2,[(0,.c (.slice 28)),(1,.clo 206 []),(7,.c (.int .i64)),(8,.c (.int .i64))])],[],0,[],[],Tryz.f226,[.c (.slice 28),.clo 206 []],[.c (.int .i64)],[(206,Zzs.S)]⟩
theorem Zny:ZaH.S.Ok Tryz.prog 226:=ZaH.ok Tryz.func226 (by kernel_rfl) ⟨ZCt,trivial⟩
noncomputable def Zfs (a:LL):Option (Int):=ZaH.S.g [.l a]
noncomputable def Kt (k:Nat) (a:LL) (b c:Int):Option (Int):=ZaH.lp [0] 0 r0 k [.l a,.i b,.i c]
theorem Zaw (k:Nat) (c:LL) (d b:Int):Kt (k+1) c d b =
 (if (cop .lss b d) then
 Zm c b hs6 fun (a:Qt10)=>
 (ZAp a.1 a.2.1 a.2.2.1 a.2.2.2.1 a.2.2.2.2.1 a.2.2.2.2.2.1 a.2.2.2.2.2.2.1 a.2.2.2.2.2.2.2.1 a.2.2.2.2.2.2.2.2.1 a.2.2.2.2.2.2.2.2.2.1 a.2.2.2.2.2.2.2.2.2.2.1 a.2.2.2.2.2.2.2.2.2.2.2.1 (d4 (d8 a)).1 (d4 (d8 a)).2.1 (d2 (d4 (d8 a))).1 (d2 (d4 (d8 a))).2.1 (d16 a).1 (d16 a).2.1 (d2 (d16 a)).1 (d2 (d16 a)).2.1 (d4 (d16 a)).1 (d4 (d16 a)).2.1 (d2 (d4 (d16 a))).1 (d2 (d4 (d16 a))).2.1 (d8 (d16 a)).1 (d8 (d16 a)).2.1 (d2 (d8 (d16 a))).1 (d2 (d8 (d16 a))).2).bind fun e=>
 if e then
 some (b)
 else
 Kt k c d (iop .add .i64 b 1)
 else
 some ((-1))):=by kernel_rfl
theorem Zi2 (a:LL):Zfs a =
 (Kt ZB a (List.length a:Int) 0):=by kernel_rfl
noncomputable def Zb7:Fn:=⟨9,[4],[],[],0,[],[],Tryz.f205,[.c (.slice 28),.clo 206 []],[.c (.bool)],[(226,ZaH.S)]⟩
theorem ZoF:Zb7.S.Ok Tryz.prog 205:=Zb7.ok Tryz.func205 (by kernel_rfl) ⟨Zny,trivial⟩
noncomputable def Zfx (a:LL):Option (Bool):=Zb7.S.g [.l a]
theorem ZiY (a:LL):Zfx a =
 ((Zfs a).bind fun b=>
 some ((cop .geq b 0))):=by kernel_rfl
noncomputable def Zzm:Fn:=⟨6,[2],[],[],0,[],[],Tryz.f239,[.c (.int .i64)],[.c (.bool)],[]⟩
theorem ZA1:Zzm.S.Ok Tryz.prog 239:=Zzm.ok Tryz.func239 (by kernel_rfl) trivial
noncomputable def ZzC (a:Int):Option (Bool):=Zzm.S.g [.i a]
theorem Ztk (a:Int):ZzC a =
 (some ((cop .neq a a))):=by kernel_rfl
noncomputable def ZzA:Fn:=⟨20,[4],[],[],0,[],[],Tryz.f238,[.c (.int .i64),.c (.int .i64)],[.c (.int .i64)],[(239,Zzm.S)]⟩
theorem ZAv:ZzA.S.Ok Tryz.prog 238:=ZzA.ok Tryz.func238 (by kernel_rfl) ⟨ZA1,trivial⟩
noncomputable def Zwt (a b:Int):Option (Int):=ZzA.S.g [.i a,.i b]
theorem Zse (a b:Int):Zwt a b =
 ((ZzC a).bind fun d=>
 (ZzC b).bind fun c=>
 if d then
 if c then
 some (0)
 else
 some ((-1))
 else
 if c then
 some (1)
 else
 if (cop .lss a b) then
 some ((-1))
 else
 if (cop .gtr a b) then
 some (1)
 else
 some (0)):=by kernel_rfl
noncomputable def ZvG:Fn:=⟨18,[2],[(3,[(3,.c (.int .i64)),(6,.c (.slice 1)),(7,.c (.int .i64)),(8,.c (.int .i64))])],[],0,[],[],Tryz.f237,[.c (.slice 1)],[.c (.int .i64)],[]⟩
theorem ZBB:ZvG.S.Ok Tryz.prog 237:=ZvG.ok Tryz.func237 (by kernel_rfl) trivial
noncomputable def ZCm (a:LL):Option (Int):=ZvG.S.g [.l a]
noncomputable def Zon (k:Nat) (a:Int) (b:LL) (c d:Int):Option (Int):=ZvG.lp [0] 0 r0 k [.i a,.l b,.i c,.i d]
theorem ZaA (k:Nat) (a:Int) (c:LL) (d b:Int):Zon (k+1) a c d b =
 (if (cop .lss b d) then
 Zm c b [.int .i64] fun (e:Int)=>
 if (cop .neq e a) then
 some (e)
 else
 Zon k a c d (iop .add .i64 b 1)
 else
 some (a)):=by kernel_rfl
theorem Zs5 (a:LL):ZCm a =
 (Zon ZB 0 a (List.length a:Int) 0):=by kernel_rfl
noncomputable def Zy7:Fn:=⟨22,[4],[],[],0,[],[],Tryz.f227,[.agg [.int .i64,.int .i64,.int .i64],.agg [.int .i64,.int .i64,.int .i64]],[.c (.int .i64)],[(238,ZzA.S),(237,ZvG.S)]⟩
theorem ZAz:Zy7.S.Ok Tryz.prog 227:=Zy7.ok Tryz.func227 (by kernel_rfl) ⟨ZAv,⟨ZBB,trivial⟩⟩
noncomputable def ZAN (a b c d e f:Int):Option (Int):=Zy7.S.g [.i a,.i b,.i c,.i d,.i e,.i f]
theorem Zt8 (a b c d e f:Int):ZAN a b c d e f =
 ((Zwt a d).bind fun g=>
 (Zwt b e).bind fun h=>
 (Zwt c f).bind fun i=>
 (ZCm (((E0++[[AV.val (.int .i64 g)]])++[[AV.val (.int .i64 h)]])++[[AV.val (.int .i64 i)]])).bind fun j=>
 some (j)):=by kernel_rfl
noncomputable def ZvB:Fn:=⟨9,[4],[],[],0,[],[],Tryz.f208,[.agg [.int .i64,.int .i64,.int .i64],.agg [.int .i64,.int .i64,.int .i64]],[.c (.bool)],[(227,Zy7.S)]⟩
theorem ZwT:ZvB.S.Ok Tryz.prog 208:=ZvB.ok Tryz.func208 (by kernel_rfl) ⟨ZAz,trivial⟩
noncomputable def ZyJ (a b c d e f:Int):Option (Bool):=ZvB.S.g [.i a,.i b,.i c,.i d,.i e,.i f]
theorem Zs8 (a b c d e f:Int):ZyJ a b c d e f =
 ((ZAN a b c d e f).bind fun g=>
 some ((cop .lss g 0))):=by kernel_rfl
noncomputable def ZyG:Fn:=⟨17,[5],[],[2],0,[],[],Tryz.f207,[.c (.int .i64),.c (.int .i64),.box [.slice 28]],[.c (.bool)],[(208,ZvB.S)]⟩
theorem ZBW:ZyG.S.Ok Tryz.prog 207:=ZyG.ok Tryz.func207 (by kernel_rfl) ⟨ZwT,trivial⟩
noncomputable def ZAo (a b:Int) (c:LL):Option (Bool×LL):=ZyG.S.g [.i a,.i b,.l c]
theorem Zrt (d e:Int) (a:LL):ZAo d e a =
 (Zm a d hs6 fun (b:Qt10)=>
 Zm a e hs6 fun (c:Qt10)=>
 (ZyJ b.1 b.2.1 b.2.2.1 c.1 c.2.1 c.2.2.1).bind fun f=>
 some (f,a)):=by kernel_rfl
noncomputable def ZaX:Fn:=⟨17,[4],[(2,[(0,.c (.int .i64)),(1,.clo 207 [17]),(5,.c (.int .i64)),(17,.gbox [.slice 28])])],[],1,[],[],Tryz.f102,[.c (.int .i64),.clo 207 [17],.dead,.dead,.dead,.dead,.dead,.dead,.dead,.dead,.dead,.dead,.dead,.dead,.dead,.dead,.dead,.gbox [.slice 28]],[.c (.bool)],[(207,ZyG.S)]⟩
theorem ZmV:ZaX.S.Ok Tryz.prog 102:=ZaX.ok Tryz.func102 (by kernel_rfl) ⟨ZBW,trivial⟩
noncomputable def Zgj (a:Int) (b:LL):Option (Bool×LL):=ZaX.S.g [.i a,.l b]
noncomputable def Kz (k:Nat) (a b:Int) (c:LL):Option (Bool×LL):=ZaX.lp [0] 0 r0 k [.i a,.i b,.l c]
theorem Zad (k:Nat) (b a:Int) (c:LL):Kz (k+1) b a c =
 (if (cop .lss a b) then
 (ZAo (iop .sub .i64 a 1) a c).bind fun d=>
 if (!d.1) then
 some (false,d.2)
 else
 Kz k b (iop .add .i64 a 1) d.2
 else
 some (true,c)):=by kernel_rfl
theorem ZiE (a:Int) (b:LL):Zgj a b =
 (Kz ZB a 1 b):=by kernel_rfl
noncomputable def ZyA:Fn:=⟨12,[2],[],[],0,[],[],Tryz.f173,[.c (.slice 28)],[.c (.bool)],[(205,Zb7.S),(102,ZaX.S)]⟩
theorem ZBR:ZyA.S.Ok Tryz.prog 173:=ZyA.ok Tryz.func173 (by kernel_rfl) ⟨ZoF,⟨ZmV,trivial⟩⟩
noncomputable def ZCb (a:LL):Option (Bool):=ZyA.S.g [.l a]
theorem Zs6 (a:LL):ZCb a =
 ((Zfx a).bind fun b=>
 if (!b) then
 (Zgj (List.length a:Int) a).bind fun c=>
 some (c.1)
 else
 some (false)):=by kernel_rfl
noncomputable def ZyO:Fn:=⟨13,[2],[],[],0,[],[],Tryz.f210,[.agg [.int .i64,.int .i64,.int .i64,.int .i64]],[.c (.bool)],[(89,F89.S),(91,F91.S)]⟩
theorem ZzU:ZyO.S.Ok Tryz.prog 210:=ZyO.ok Tryz.func210 (by kernel_rfl) ⟨Zy6,⟨Zy5,trivial⟩⟩
noncomputable def ZzV (a b c d:Int):Option (Bool):=ZyO.S.g [.i a,.i b,.i c,.i d]
theorem Zus (a b c d:Int):ZzV a b c d =
 ((g89 a).bind fun e=>
 if (!e) then
 some (true)
 else
 (g91 b c d).bind fun f=>
 some ((!f))):=by kernel_rfl
noncomputable def ZaC:Fn:=⟨19,[4],[(2,[(0,.c (.slice 4)),(1,.clo 210 []),(7,.c (.int .i64)),(8,.c (.int .i64))])],[],0,[],[],Tryz.f228,[.c (.slice 4),.clo 210 []],[.c (.int .i64)],[(210,ZyO.S)]⟩
theorem Znp:ZaC.S.Ok Tryz.prog 228:=ZaC.ok Tryz.func228 (by kernel_rfl) ⟨ZzU,trivial⟩
noncomputable def Ze9 (a:LL):Option (Int):=ZaC.S.g [.l a]
noncomputable def KH (k:Nat) (a:LL) (b c:Int):Option (Int):=ZaC.lp [0] 0 r0 k [.l a,.i b,.i c]
theorem Za7 (k:Nat) (c:LL) (d a:Int):KH (k+1) c d a =
 (if (cop .lss a d) then
 Zm c a [.int .i64,.int .i64,.int .i64,.int .i64] fun (b:Int×Int×Int×Int)=>
 (ZzV b.1 b.2.1 b.2.2.1 b.2.2.2).bind fun e=>
 if e then
 some (a)
 else
 KH k c d (iop .add .i64 a 1)
 else
 some ((-1))):=by kernel_rfl
theorem ZiR (a:LL):Ze9 a =
 (KH ZB a (List.length a:Int) 0):=by kernel_rfl
noncomputable def Zcd:Fn:=⟨9,[4],[],[],0,[],[],Tryz.f209,[.c (.slice 4),.clo 210 []],[.c (.bool)],[(228,ZaC.S)]⟩
theorem ZmJ:Zcd.S.Ok Tryz.prog 209:=Zcd.ok Tryz.func209 (by kernel_rfl) ⟨Znp,trivial⟩
noncomputable def Zfn (a:LL):Option (Bool):=Zcd.S.g [.l a]
theorem Ziw (a:LL):Zfn a =
 ((Ze9 a).bind fun b=>
 some ((cop .geq b 0))):=by kernel_rfl
noncomputable def Zzn:Fn:=⟨17,[5],[],[2],0,[],[],Tryz.f211,[.c (.int .i64),.c (.int .i64),.box [.slice 4]],[.c (.bool)],[]⟩
theorem ZAx:Zzn.S.Ok Tryz.prog 211:=Zzn.ok Tryz.func211 (by kernel_rfl) trivial
noncomputable def ZA9 (a b:Int) (c:LL):Option (Bool×LL):=Zzn.S.g [.i a,.i b,.l c]
theorem Zsy (b c:Int) (a:LL):ZA9 b c a =
 (Zm a b [.int .i64,.int .i64,.int .i64,.int .i64] fun (d:Int×Int×Int×Int)=>
 Zm a c [.int .i64,.int .i64,.int .i64,.int .i64] fun (e:Int×Int×Int×Int)=>
 some ((cop .lss d.1 e.1),a)):=by kernel_rfl
noncomputable def ZaV:Fn:=⟨17,[4],[(2,[(0,.c (.int .i64)),(1,.clo 211 [17]),(5,.c (.int .i64)),(17,.gbox [.slice 4])])],[],1,[],[],Tryz.f102,[.c (.int .i64),.clo 211 [17],.dead,.dead,.dead,.dead,.dead,.dead,.dead,.dead,.dead,.dead,.dead,.dead,.dead,.dead,.dead,.gbox [.slice 4]],[.c (.bool)],[(211,Zzn.S)]⟩
theorem Zn7:ZaV.S.Ok Tryz.prog 102:=ZaV.ok Tryz.func102 (by kernel_rfl) ⟨ZAx,trivial⟩
noncomputable def Zfl (a:Int) (b:LL):Option (Bool×LL):=ZaV.S.g [.i a,.l b]
noncomputable def KC (k:Nat) (a b:Int) (c:LL):Option (Bool×LL):=ZaV.lp [0] 0 r0 k [.i a,.i b,.l c]
theorem Zao (k:Nat) (b a:Int) (c:LL):KC (k+1) b a c =
 (if (cop .lss a b) then
 (ZA9 (iop .sub .i64 a 1) a c).bind fun d=>
 if (!d.1) then
 some (false,d.2)
 else
 KC k b (iop .add .i64 a 1) d.2
 else
 some (true,c)):=by kernel_rfl
theorem ZjB (a:Int) (b:LL):Zfl a b =
 (KC ZB a 1 b):=by kernel_rfl
noncomputable def ZyK:Fn:=⟨12,[2],[],[],0,[],[],Tryz.f174,[.c (.slice 4)],[.c (.bool)],[(209,Zcd.S),(102,ZaV.S)]⟩
theorem ZB4:ZyK.S.Ok Tryz.prog 174:=ZyK.ok Tryz.func174 (by kernel_rfl) ⟨ZmJ,⟨Zn7,trivial⟩⟩
noncomputable def ZBb (a:LL):Option (Bool):=ZyK.S.g [.l a]
theorem ZsU (a:LL):ZBb a =
 ((Zfn a).bind fun b=>
 if (!b) then
 (Zfl (List.length a:Int) a).bind fun c=>
 some (c.1)
 else
 some (false)):=by kernel_rfl
noncomputable def Zzb:Fn:=⟨17,[2],[],[],0,[],[],Tryz.f213,[.agg [.int .i64,.int .i64]],[.c (.bool)],[(92,F92.S)]⟩
theorem ZAr:Zzb.S.Ok Tryz.prog 213:=Zzb.ok Tryz.func213 (by kernel_rfl) ⟨ZC5,trivial⟩
noncomputable def ZAg (a b:Int):Option (Bool):=Zzb.S.g [.i a,.i b]
theorem Zt1 (a b:Int):ZAg a b =
 (if (cop .lss a 1) then
 some (true)
 else
 if (cop .gtr a 1073741824) then
 some (true)
 else
 (g92 b).bind fun c=>
 some ((!c))):=by kernel_rfl
noncomputable def Zak:Fn:=⟨19,[4],[(2,[(0,.c (.slice 2)),(1,.clo 213 []),(7,.c (.int .i64)),(8,.c (.int .i64))])],[],0,[],[],Tryz.f229,[.c (.slice 2),.clo 213 []],[.c (.int .i64)],[(213,Zzb.S)]⟩
theorem Zne:Zak.S.Ok Tryz.prog 229:=Zak.ok Tryz.func229 (by kernel_rfl) ⟨ZAr,trivial⟩
noncomputable def Zgn (a:LL):Option (Int):=Zak.S.g [.l a]
noncomputable def Kp (k:Nat) (a:LL) (b c:Int):Option (Int):=Zak.lp [0] 0 r0 k [.l a,.i b,.i c]
theorem Zar (k:Nat) (b:LL) (c a:Int):Kp (k+1) b c a =
 (if (cop .lss a c) then
 Zm b a [.int .i64,.int .i64] fun (d:Int×Int)=>
 (ZAg d.1 d.2).bind fun e=>
 if e then
 some (a)
 else
 Kp k b c (iop .add .i64 a 1)
 else
 some ((-1))):=by kernel_rfl
theorem Zjp (a:LL):Zgn a =
 (Kp ZB a (List.length a:Int) 0):=by kernel_rfl
noncomputable def Zb5:Fn:=⟨9,[4],[],[],0,[],[],Tryz.f212,[.c (.slice 2),.clo 213 []],[.c (.bool)],[(229,Zak.S)]⟩
theorem Zm2:Zb5.S.Ok Tryz.prog 212:=Zb5.ok Tryz.func212 (by kernel_rfl) ⟨Zne,trivial⟩
noncomputable def Zge (a:LL):Option (Bool):=Zb5.S.g [.l a]
theorem Zjn (a:LL):Zge a =
 ((Zgn a).bind fun b=>
 some ((cop .geq b 0))):=by kernel_rfl
noncomputable def Zy2:Fn:=⟨17,[5],[],[2],0,[],[],Tryz.f214,[.c (.int .i64),.c (.int .i64),.box [.slice 2]],[.c (.bool)],[]⟩
theorem ZAf:Zy2.S.Ok Tryz.prog 214:=Zy2.ok Tryz.func214 (by kernel_rfl) trivial
noncomputable def ZA5 (a b:Int) (c:LL):Option (Bool×LL):=Zy2.S.g [.i a,.i b,.l c]
theorem ZtL (b c:Int) (a:LL):ZA5 b c a =
 (Zm a b [.int .i64,.int .i64] fun (d:Int×Int)=>
 Zm a c [.int .i64,.int .i64] fun (e:Int×Int)=>
 some ((cop .lss d.1 e.1),a)):=by kernel_rfl
noncomputable def Zav:Fn:=⟨17,[4],[(2,[(0,.c (.int .i64)),(1,.clo 214 [17]),(5,.c (.int .i64)),(17,.gbox [.slice 2])])],[],1,[],[],Tryz.f102,[.c (.int .i64),.clo 214 [17],.dead,.dead,.dead,.dead,.dead,.dead,.dead,.dead,.dead,.dead,.dead,.dead,.dead,.dead,.dead,.gbox [.slice 2]],[.c (.bool)],[(214,Zy2.S)]⟩
theorem ZnP:Zav.S.Ok Tryz.prog 102:=Zav.ok Tryz.func102 (by kernel_rfl) ⟨ZAf,trivial⟩
noncomputable def ZfV (a:Int) (b:LL):Option (Bool×LL):=Zav.S.g [.i a,.l b]
noncomputable def KE (k:Nat) (a b:Int) (c:LL):Option (Bool×LL):=Zav.lp [0] 0 r0 k [.i a,.i b,.l c]
theorem Zbf (k:Nat) (b a:Int) (c:LL):KE (k+1) b a c =
 (if (cop .lss a b) then
 (ZA5 (iop .sub .i64 a 1) a c).bind fun d=>
 if (!d.1) then
 some (false,d.2)
 else
 KE k b (iop .add .i64 a 1) d.2
 else
 some (true,c)):=by kernel_rfl
theorem Zjb (a:Int) (b:LL):ZfV a b =
 (KE ZB a 1 b):=by kernel_rfl
noncomputable def Zy9:Fn:=⟨12,[2],[],[],0,[],[],Tryz.f175,[.c (.slice 2)],[.c (.bool)],[(212,Zb5.S),(102,Zav.S)]⟩
theorem ZBO:Zy9.S.Ok Tryz.prog 175:=Zy9.ok Tryz.func175 (by kernel_rfl) ⟨Zm2,⟨ZnP,trivial⟩⟩
noncomputable def ZCC (a:LL):Option (Bool):=Zy9.S.g [.l a]
theorem Zr7 (a:LL):ZCC a =
 ((Zge a).bind fun b=>
 if (!b) then
 (ZfV (List.length a:Int) a).bind fun c=>
 some (c.1)
 else
 some (false)):=by kernel_rfl
noncomputable def Zzg:Fn:=⟨19,[2],[],[],0,[],[],Tryz.f216,[.agg hs12],[.c (.bool)],[(34,F34.S),(96,F96.S),(95,F95.S)]⟩
theorem ZAA:Zzg.S.Ok Tryz.prog 216:=Zzg.ok Tryz.func216 (by kernel_rfl) ⟨Zsa,⟨ZC3,⟨ZuO,trivial⟩⟩⟩
noncomputable def ZAc (a c d e f:Int) (h:LL) (j k m n o p:Int) (q:Bool):Option (Bool):=Zzg.S.g [.i a,.i c,.i d,.i e,.i f,.l h,.i j,.i k,.i m,.i n,.i o,.i p,.b q]
theorem Ztv (a b c d e:Int) (f:LL) (g h i j k l:Int) (m:Bool):ZAc a b c d e f g h i j k l m =
 ((g34 a).bind fun n=>
 if (!n) then
 some (true)
 else
 (g96 b).bind fun o=>
 if (!o) then
 some (true)
 else
 (g95 c d e f g h i j k l m).bind fun p=>
 some ((!p))):=by kernel_rfl
noncomputable def ZaS:Fn:=⟨19,[4],[(2,[(0,.c (.slice 13)),(1,.clo 216 []),(7,.c (.int .i64)),(8,.c (.int .i64))])],[],0,[],[],Tryz.f230,[.c (.slice 13),.clo 216 []],[.c (.int .i64)],[(216,Zzg.S)]⟩
theorem Zoc:ZaS.S.Ok Tryz.prog 230:=ZaS.ok Tryz.func230 (by kernel_rfl) ⟨ZAA,trivial⟩
noncomputable def Ze7 (a:LL):Option (Int):=ZaS.S.g [.l a]
noncomputable def Ks (k:Nat) (a:LL) (b c:Int):Option (Int):=ZaS.lp [0] 0 r0 k [.l a,.i b,.i c]
theorem ZaR (k:Nat) (c:LL) (d b:Int):Ks (k+1) c d b =
 (if (cop .lss b d) then
 Zm c b hs12 fun (a:Qt25)=>
 (ZAc a.1 a.2.1 a.2.2.1 a.2.2.2.1 a.2.2.2.2.1 a.2.2.2.2.2.1 a.2.2.2.2.2.2.1 a.2.2.2.2.2.2.2.1 a.2.2.2.2.2.2.2.2.1 a.2.2.2.2.2.2.2.2.2.1 a.2.2.2.2.2.2.2.2.2.2.1 a.2.2.2.2.2.2.2.2.2.2.2.1 (d4 (d8 a))).bind fun e=>
 if e then
 some (b)
 else
 Ks k c d (iop .add .i64 b 1)
 else
 some ((-1))):=by kernel_rfl
theorem Zjy (a:LL):Ze7 a =
 (Ks ZB a (List.length a:Int) 0):=by kernel_rfl
noncomputable def Zcc:Fn:=⟨9,[4],[],[],0,[],[],Tryz.f215,[.c (.slice 13),.clo 216 []],[.c (.bool)],[(230,ZaS.S)]⟩
theorem Znh:Zcc.S.Ok Tryz.prog 215:=Zcc.ok Tryz.func215 (by kernel_rfl) ⟨Zoc,trivial⟩
noncomputable def Zfv (a:LL):Option (Bool):=Zcc.S.g [.l a]
theorem Zjr (a:LL):Zfv a =
 ((Ze7 a).bind fun b=>
 some ((cop .geq b 0))):=by kernel_rfl
noncomputable def ZzF:Fn:=⟨19,[5],[],[2],0,[],[],Tryz.f217,[.c (.int .i64),.c (.int .i64),.box [.slice 13]],[.c (.bool)],[(208,ZvB.S)]⟩
theorem ZCz:ZzF.S.Ok Tryz.prog 217:=ZzF.ok Tryz.func217 (by kernel_rfl) ⟨ZwT,trivial⟩
noncomputable def ZCx (a b:Int) (c:LL):Option (Bool×LL):=ZzF.S.g [.i a,.i b,.l c]
theorem Ztu (d e:Int) (a:LL):ZCx d e a =
 (Zm a d hs12 fun (b:Qt25)=>
 Zm a e hs12 fun (c:Qt25)=>
 (ZyJ b.2.2.1 b.2.2.2.1 b.2.2.2.2.1 c.2.2.1 c.2.2.2.1 c.2.2.2.2.1).bind fun f=>
 some (f,a)):=by kernel_rfl
noncomputable def Zah:Fn:=⟨17,[4],[(2,[(0,.c (.int .i64)),(1,.clo 217 [17]),(5,.c (.int .i64)),(17,.gbox [.slice 13])])],[],1,[],[],Tryz.f102,[.c (.int .i64),.clo 217 [17],.dead,.dead,.dead,.dead,.dead,.dead,.dead,.dead,.dead,.dead,.dead,.dead,.dead,.dead,.dead,.gbox [.slice 13]],[.c (.bool)],[(217,ZzF.S)]⟩
theorem ZmZ:Zah.S.Ok Tryz.prog 102:=Zah.ok Tryz.func102 (by kernel_rfl) ⟨ZCz,trivial⟩
noncomputable def Zgo (a:Int) (b:LL):Option (Bool×LL):=Zah.S.g [.i a,.l b]
noncomputable def Kr (k:Nat) (a b:Int) (c:LL):Option (Bool×LL):=Zah.lp [0] 0 r0 k [.i a,.i b,.l c]
theorem Zba (k:Nat) (b a:Int) (c:LL):Kr (k+1) b a c =
 (if (cop .lss a b) then
 (ZCx (iop .sub .i64 a 1) a c).bind fun d=>
 if (!d.1) then
 some (false,d.2)
 else
 Kr k b (iop .add .i64 a 1) d.2
 else
 some (true,c)):=by kernel_rfl
theorem ZjJ (a:Int) (b:LL):Zgo a b =
 (Kr ZB a 1 b):=by kernel_rfl
noncomputable def ZyP:Fn:=⟨12,[2],[],[],0,[],[],Tryz.f176,[.c (.slice 13)],[.c (.bool)],[(215,Zcc.S),(102,Zah.S)]⟩
theorem ZzH:ZyP.S.Ok Tryz.prog 176:=ZyP.ok Tryz.func176 (by kernel_rfl) ⟨Znh,⟨ZmZ,trivial⟩⟩
noncomputable def ZCp (a:LL):Option (Bool):=ZyP.S.g [.l a]
theorem Zsx (a:LL):ZCp a =
 ((Zfv a).bind fun b=>
 if (!b) then
 (Zgo (List.length a:Int) a).bind fun c=>
 some (c.1)
 else
 some (false)):=by kernel_rfl
noncomputable def ZyM:Fn:=⟨6,[2],[],[],0,[],[],Tryz.f177,[.agg [.int .i64,.int .i64,.int .i64]],[.c (.bool)],[(91,F91.S)]⟩
theorem ZCw:ZyM.S.Ok Tryz.prog 177:=ZyM.ok Tryz.func177 (by kernel_rfl) ⟨Zy5,trivial⟩
noncomputable def ZCe (a b c:Int):Option (Bool):=ZyM.S.g [.i a,.i b,.i c]
theorem Zuj (a b c:Int):ZCe a b c =
 ((g91 a b c).bind fun d=>
 some ((!d))):=by kernel_rfl
noncomputable def ZaL:Fn:=⟨19,[4],[(2,[(0,.c (.slice 3)),(1,.clo 177 []),(7,.c (.int .i64)),(8,.c (.int .i64))])],[],0,[],[],Tryz.f168,[.c (.slice 3),.clo 177 []],[.c (.int .i64)],[(177,ZyM.S)]⟩
theorem ZmR:ZaL.S.Ok Tryz.prog 168:=ZaL.ok Tryz.func168 (by kernel_rfl) ⟨ZCw,trivial⟩
noncomputable def Zfo (a:LL):Option (Int):=ZaL.S.g [.l a]
noncomputable def Ku (k:Nat) (a:LL) (b c:Int):Option (Int):=ZaL.lp [0] 0 r0 k [.l a,.i b,.i c]
theorem Za9 (k:Nat) (b:LL) (c a:Int):Ku (k+1) b c a =
 (if (cop .lss a c) then
 Zm b a [.int .i64,.int .i64,.int .i64] fun (d:Int×Int×Int)=>
 (ZCe d.1 d.2.1 d.2.2).bind fun e=>
 if e then
 some (a)
 else
 Ku k b c (iop .add .i64 a 1)
 else
 some ((-1))):=by kernel_rfl
theorem Zjz (a:LL):Zfo a =
 (Ku ZB a (List.length a:Int) 0):=by kernel_rfl
noncomputable def Zf3:Fn:=⟨9,[4],[],[],0,[],[],Tryz.f97,[.c (.slice 3),.clo 177 []],[.c (.bool)],[(168,ZaL.S)]⟩
theorem Zpj:Zf3.S.Ok Tryz.prog 97:=Zf3.ok Tryz.func97 (by kernel_rfl) ⟨ZmR,trivial⟩
noncomputable def Zjx (a:LL):Option (Bool):=Zf3.S.g [.l a]
theorem ZlI (a:LL):Zjx a =
 ((Zfo a).bind fun b=>
 some ((cop .geq b 0))):=by kernel_rfl
noncomputable def Zxs:Fn:=⟨32,[2],[],[],0,[],[],Tryz.f106,[.agg hs30],[.c (.bool)],[(172,Zxo.S),(173,ZyA.S),(174,ZyK.S),(175,Zy9.S),(176,ZyP.S),(97,Zf3.S)]⟩
theorem ZvQ:Zxs.S.Ok Tryz.prog 106:=Zxs.ok Tryz.func106 (by kernel_rfl) ⟨ZAa,⟨ZBR,⟨ZB4,⟨ZBO,⟨ZzH,⟨Zpj,trivial⟩⟩⟩⟩⟩⟩
noncomputable def Zxg (a b c d e f:LL):Option (Bool):=Zxs.S.g [.l a,.l b,.l c,.l d,.l e,.l f]
theorem Zur (a b c d e f:LL):Zxg a b c d e f =
 ((ZzK a).bind fun g=>
 if g then
 (ZCb b).bind fun h=>
 if h then
 (ZBb c).bind fun i=>
 if i then
 (ZCC d).bind fun j=>
 if j then
 (ZCp e).bind fun k=>
 if k then
 (Zjx f).bind fun l=>
 some ((!l))
 else
 some (false)
 else
 some (false)
 else
 some (false)
 else
 some (false)
 else
 some (false)):=by kernel_rfl
noncomputable def Zyw:Fn:=⟨26,[2],[],[],0,[],[],Tryz.f104,[.agg hs7],[.c (.bool)],[(34,F34.S),(105,ZuJ.S),(106,Zxs.S)]⟩
theorem ZAk:Zyw.S.Ok Tryz.prog 104:=Zyw.ok Tryz.func104 (by kernel_rfl) ⟨Zsa,⟨Zvy,⟨ZvQ,trivial⟩⟩⟩
noncomputable def Zz3 (a c:Int) (d e f h j k m n:LL) (o:Bool) (p:Int) (q r s t u v w x:LL):Option (Bool):=Zyw.S.g [.i a,.i c,.l d,.l e,.l f,.l h,.l j,.l k,.l m,.l n,.b o,.i p,.l q,.l r,.l s,.l t,.l u,.l v,.l w,.l x]
theorem Zs3 (a b:Int) (c d e f g h i j:LL) (t:Bool) (k:Int) (l m n o p q r s:LL):Zz3 a b c d e f g h i j t k l m n o p q r s =
 ((g34 a).bind fun u=>
 if u then
 (Zyj b c d).bind fun v=>
 if v then
 (Zxg e f g h i j).bind fun w=>
 if w then
 (Zyj k l m).bind fun x=>
 if x then
 (Zxg n o p q r s).bind fun y=>
 some (y)
 else
 some (false)
 else
 some (false)
 else
 some (false)
 else
 some (false)):=by kernel_rfl
noncomputable def F94:Fn:=⟨6,[2],[],[],0,[],[],Tryz.f94,[.agg hs16],[.c (.bool)],[(95,F95.S)]⟩
theorem ZEz:F94.S.Ok Tryz.prog 94:=F94.ok Tryz.func94 (by kernel_rfl) ⟨ZuO,trivial⟩
noncomputable def g94 (a c d:Int) (e:LL) (f h j k m n:Int) (o:Bool):Option (Bool):=F94.S.g [.i a,.i c,.i d,.l e,.i f,.i h,.i j,.i k,.i m,.i n,.b o]
theorem Zvs (a b c:Int) (d:LL) (e f g h i j:Int) (k:Bool):g94 a b c d e f g h i j k =
 ((g95 a b c d e f g h i j k).bind fun l=>
 some ((!l))):=by kernel_rfl
noncomputable def Zdl:Fn:=⟨19,[4],[(2,[(0,.c (.slice 11)),(1,.clo 94 []),(7,.c (.int .i64)),(8,.c (.int .i64))])],[],0,[],[],Tryz.f165,[.c (.slice 11),.clo 94 []],[.c (.int .i64)],[(94,F94.S)]⟩
theorem Zqw:Zdl.S.Ok Tryz.prog 165:=Zdl.ok Tryz.func165 (by kernel_rfl) ⟨ZEz,trivial⟩
noncomputable def Ziv (a:LL):Option (Int):=Zdl.S.g [.l a]
noncomputable def Vi (k:Nat) (a:LL) (b c:Int):Option (Int):=Zdl.lp [0] 0 r0 k [.l a,.i b,.i c]
theorem ZbQ (k:Nat) (c:LL) (d b:Int):Vi (k+1) c d b =
 (if (cop .lss b d) then
 Zm c b hs16 fun (a:Qt31)=>
 (g94 a.1 a.2.1 a.2.2.1 a.2.2.2.1 a.2.2.2.2.1 a.2.2.2.2.2.1 a.2.2.2.2.2.2.1 a.2.2.2.2.2.2.2.1 a.2.2.2.2.2.2.2.2.1 a.2.2.2.2.2.2.2.2.2.1 a.2.2.2.2.2.2.2.2.2.2).bind fun e=>
 if e then
 some (b)
 else
 Vi k c d (iop .add .i64 b 1)
 else
 some ((-1))):=by kernel_rfl
theorem ZlL (a:LL):Ziv a =
 (Vi ZB a (List.length a:Int) 0):=by kernel_rfl
noncomputable def Zkj:Fn:=⟨9,[4],[],[],0,[],[],Tryz.f93,[.c (.slice 11),.clo 94 []],[.c (.bool)],[(165,Zdl.S)]⟩
theorem ZsP:Zkj.S.Ok Tryz.prog 93:=Zkj.ok Tryz.func93 (by kernel_rfl) ⟨Zqw,trivial⟩
noncomputable def ZeG (a:LL):Option (Bool):=Zkj.S.g [.l a]
theorem ZoH (a:LL):ZeG a =
 ((Ziv a).bind fun b=>
 some ((cop .geq b 0))):=by kernel_rfl
noncomputable def F98:Fn:=⟨6,[2],[],[],0,[],[],Tryz.f98,[.agg [.int .i64,.int .i64,.int .i64]],[.c (.bool)],[(99,F99.S)]⟩
theorem ZEq:F98.S.Ok Tryz.prog 98:=F98.ok Tryz.func98 (by kernel_rfl) ⟨Zzz,trivial⟩
noncomputable def g98 (a b c:Int):Option (Bool):=F98.S.g [.i a,.i b,.i c]
theorem Zyn (a b c:Int):g98 a b c =
 ((g99 a b c).bind fun d=>
 some ((!d))):=by kernel_rfl
noncomputable def ZcS:Fn:=⟨19,[4],[(2,[(0,.c (.slice 3)),(1,.clo 98 []),(7,.c (.int .i64)),(8,.c (.int .i64))])],[],0,[],[],Tryz.f168,[.c (.slice 3),.clo 98 []],[.c (.int .i64)],[(98,F98.S)]⟩
theorem Zo0:ZcS.S.Ok Tryz.prog 168:=ZcS.ok Tryz.func168 (by kernel_rfl) ⟨ZEq,trivial⟩
noncomputable def Zix (a:LL):Option (Int):=ZcS.S.g [.l a]
noncomputable def Vd (k:Nat) (a:LL) (b c:Int):Option (Int):=ZcS.lp [0] 0 r0 k [.l a,.i b,.i c]
theorem ZbL (k:Nat) (b:LL) (c a:Int):Vd (k+1) b c a =
 (if (cop .lss a c) then
 Zm b a [.int .i64,.int .i64,.int .i64] fun (d:Int×Int×Int)=>
 (g98 d.1 d.2.1 d.2.2).bind fun e=>
 if e then
 some (a)
 else
 Vd k b c (iop .add .i64 a 1)
 else
 some ((-1))):=by kernel_rfl
theorem Zmg (a:LL):Zix a =
 (Vd ZB a (List.length a:Int) 0):=by kernel_rfl
noncomputable def ZkT:Fn:=⟨9,[4],[],[],0,[],[],Tryz.f97,[.c (.slice 3),.clo 98 []],[.c (.bool)],[(168,ZcS.S)]⟩
theorem Zro:ZkT.S.Ok Tryz.prog 97:=ZkT.ok Tryz.func97 (by kernel_rfl) ⟨Zo0,trivial⟩
noncomputable def ZkP (a:LL):Option (Bool):=ZkT.S.g [.l a]
theorem ZoI (a:LL):ZkP a =
 ((Zix a).bind fun b=>
 some ((cop .geq b 0))):=by kernel_rfl
noncomputable def Zzk:Fn:=⟨6,[2],[],[],0,[],[],Tryz.f101,[.c (.int .i64)],[.c (.bool)],[(34,F34.S)]⟩
theorem ZCy:Zzk.S.Ok Tryz.prog 101:=Zzk.ok Tryz.func101 (by kernel_rfl) ⟨Zsa,trivial⟩
noncomputable def ZzN (a:Int):Option (Bool):=Zzk.S.g [.i a]
theorem ZsF (a:Int):ZzN a =
 ((g34 a).bind fun b=>
 some ((!b))):=by kernel_rfl
noncomputable def Zai:Fn:=⟨19,[4],[(2,[(0,.c (.slice 1)),(1,.clo 101 []),(7,.c (.int .i64)),(8,.c (.int .i64))])],[],0,[],[],Tryz.f169,[.c (.slice 1),.clo 101 []],[.c (.int .i64)],[(101,Zzk.S)]⟩
theorem Zoa:Zai.S.Ok Tryz.prog 169:=Zai.ok Tryz.func169 (by kernel_rfl) ⟨ZCy,trivial⟩
noncomputable def ZfP (a:LL):Option (Int):=Zai.S.g [.l a]
noncomputable def KF (k:Nat) (a:LL) (b c:Int):Option (Int):=Zai.lp [0] 0 r0 k [.l a,.i b,.i c]
theorem ZaJ (k:Nat) (b:LL) (c a:Int):KF (k+1) b c a =
 (if (cop .lss a c) then
 Zm b a [.int .i64] fun (d:Int)=>
 (ZzN d).bind fun e=>
 if e then
 some (a)
 else
 KF k b c (iop .add .i64 a 1)
 else
 some ((-1))):=by kernel_rfl
theorem ZiX (a:LL):ZfP a =
 (KF ZB a (List.length a:Int) 0):=by kernel_rfl
noncomputable def Zca:Fn:=⟨9,[4],[],[],0,[],[],Tryz.f100,[.c (.slice 1),.clo 101 []],[.c (.bool)],[(169,Zai.S)]⟩
theorem ZmP:Zca.S.Ok Tryz.prog 100:=Zca.ok Tryz.func100 (by kernel_rfl) ⟨Zoa,trivial⟩
noncomputable def Zci (a:LL):Option (Bool):=Zca.S.g [.l a]
theorem ZjH (a:LL):Zci a =
 ((ZfP a).bind fun b=>
 some ((cop .geq b 0))):=by kernel_rfl
noncomputable def Zy8:Fn:=⟨17,[5],[],[2],0,[],[],Tryz.f103,[.c (.int .i64),.c (.int .i64),.box hs0],[.c (.bool)],[]⟩
theorem ZCq:Zy8.S.Ok Tryz.prog 103:=Zy8.ok Tryz.func103 (by kernel_rfl) trivial
noncomputable def ZAl (a c d e f h j k m n o p q:Int) (r:Bool) (s t u v w x y z A C D E G H J K L M N O:Int) (P:LL) (Q R T U V W:Int) (X:Bool) (Y Z aa ab:LL) (ac ad:Int) (ae af ag ah ai aj ak al:LL) (am an:Int) (ao ap aq ar aZ au av aw:LL) (ax:Bool) (ay:Int) (az a0 a1 a2 a3 a4 a5 a6:LL):Option (Qt3):=Zy8.S.g [.i a,.i c,.i d,.i e,.i f,.i h,.i j,.i k,.i m,.i n,.i o,.i p,.i q,.b r,.i s,.i t,.i u,.i v,.i w,.i x,.i y,.i z,.i A,.i C,.i D,.i E,.i G,.i H,.i J,.i K,.i L,.i M,.i N,.i O,.l P,.i Q,.i R,.i T,.i U,.i V,.i W,.b X,.l Y,.l Z,.l aa,.l ab,.i ac,.i ad,.l ae,.l af,.l ag,.l ah,.l ai,.l aj,.l ak,.l al,.i am,.i an,.l ao,.l ap,.l aq,.l ar,.l aZ,.l au,.l av,.l aw,.b ax,.i ay,.l az,.l a0,.l a1,.l a2,.l a3,.l a4,.l a5,.l a6]
theorem Zuv (b c d e f g h i j k l m n:Int) (o:Bool) (p q r s t u v w x y z A C D E G H J K L:Int) (M:LL) (N O P Q R T:Int) (U:Bool) (V W a X:LL) (Y Z:Int) (aa ab ac ad ae af ag ah:LL) (ai aj:Int) (ak al am an ao ap aq ar:LL) (aZ:Bool) (au:Int) (av aw ax ay az a0 a1 a2:LL):ZAl b c d e f g h i j k l m n o p q r s t u v w x y z A C D E G H J K L M N O P Q R T U V W a X Y Z aa ab ac ad ae af ag ah ai aj ak al am an ao ap aq ar aZ au av aw ax ay az a0 a1 a2 =
 (Zm a b [.int .i64] fun (a3:Int)=>
 Zm a c [.int .i64] fun (a4:Int)=>
 some ((cop .lss a3 a4),d,e,f,g,h,i,j,k,l,m,n,o,p,q,r,s,t,u,v,w,x,y,z,A,C,D,E,G,H,J,K,L,M,N,O,P,Q,R,T,U,V,W,a,X,Y,Z,aa,ab,ac,ad,ae,af,ag,ah,ai,aj,ak,al,am,an,ao,ap,aq,ar,aZ,au,av,aw,ax,ay,az,a0,a1,a2)):=by kernel_rfl
noncomputable def Za2:Fn:=⟨17,[4],[(2,[(0,.c (.int .i64)),(1,.clo 103 [17]),(5,.c (.int .i64)),(17,.gbox hs0)])],[],1,[],[],Tryz.f102,[.c (.int .i64),.clo 103 [17],.dead,.dead,.dead,.dead,.dead,.dead,.dead,.dead,.dead,.dead,.dead,.dead,.dead,.dead,.dead,.gbox hs0],[.c (.bool)],[(103,Zy8.S)]⟩
theorem ZmC:Za2.S.Ok Tryz.prog 102:=Za2.ok Tryz.func102 (by kernel_rfl) ⟨ZCq,trivial⟩
noncomputable def Zb6 (a c d e f h j k m n o p:Int) (q:Bool) (r s t u v w x y z A C D E G H J K L M N:Int) (O:LL) (P Q R T U V:Int) (W:Bool) (X Y Z aa:LL) (ab ac:Int) (ad ae af ag ah ai aj ak:LL) (al am:Int) (an ao ap aq ar aZ au av:LL) (aw:Bool) (ax:Int) (ay az a0 a1 a2 a3 a4 a5:LL):Option (Qt3):=Za2.S.g [.i a,.i c,.i d,.i e,.i f,.i h,.i j,.i k,.i m,.i n,.i o,.i p,.b q,.i r,.i s,.i t,.i u,.i v,.i w,.i x,.i y,.i z,.i A,.i C,.i D,.i E,.i G,.i H,.i J,.i K,.i L,.i M,.i N,.l O,.i P,.i Q,.i R,.i T,.i U,.i V,.b W,.l X,.l Y,.l Z,.l aa,.i ab,.i ac,.l ad,.l ae,.l af,.l ag,.l ah,.l ai,.l aj,.l ak,.i al,.i am,.l an,.l ao,.l ap,.l aq,.l ar,.l aZ,.l au,.l av,.b aw,.i ax,.l ay,.l az,.l a0,.l a1,.l a2,.l a3,.l a4,.l a5]
noncomputable def Wk (k:Nat) (a c d e f g h j m n o p q:Int) (r:Bool) (s t u v w x y z A C D E G H J K L M N O:Int) (P:LL) (Q R T U V W:Int) (X:Bool) (Y Z aa ab:LL) (ac ad:Int) (ae af ag ah ai aj ak al:LL) (am an:Int) (ao ap aq ar aZ au av aw:LL) (ax:Bool) (ay:Int) (az a0 a1 a2 a3 a4 a5 a6:LL):Option (Qt3):=Za2.lp [0] 0 r0 k [.i a,.i c,.i d,.i e,.i f,.i g,.i h,.i j,.i m,.i n,.i o,.i p,.i q,.b r,.i s,.i t,.i u,.i v,.i w,.i x,.i y,.i z,.i A,.i C,.i D,.i E,.i G,.i H,.i J,.i K,.i L,.i M,.i N,.i O,.l P,.i Q,.i R,.i T,.i U,.i V,.i W,.b X,.l Y,.l Z,.l aa,.l ab,.i ac,.i ad,.l ae,.l af,.l ag,.l ah,.l ai,.l aj,.l ak,.l al,.i am,.i an,.l ao,.l ap,.l aq,.l ar,.l aZ,.l au,.l av,.l aw,.b ax,.i ay,.l az,.l a0,.l a1,.l a2,.l a3,.l a4,.l a5,.l a6]
theorem Za4 (k:Nat) (c b d e f g h i j l m n o:Int) (p:Bool) (q r s t u v w x y z A C D E G H J K L M:Int) (N:LL) (O P Q R T U:Int) (V:Bool) (W X Y Z:LL) (aa ab:Int) (ac ad ae af ag ah ai aj:LL) (ak al:Int) (am an ao ap aq ar aZ au:LL) (av:Bool) (aw:Int) (ax ay az a0 a1 a2 a3 a4:LL):Wk (k+1) c b d e f g h i j l m n o p q r s t u v w x y z A C D E G H J K L M N O P Q R T U V W X Y Z aa ab ac ad ae af ag ah ai aj ak al am an ao ap aq ar aZ au av aw ax ay az a0 a1 a2 a3 a4 =
 (if (cop .lss b c) then
 (ZAl (iop .sub .i64 b 1) b d e f g h i j l m n o p q r s t u v w x y z A C D E G H J K L M N O P Q R T U V W X Y Z aa ab ac ad ae af ag ah ai aj ak al am an ao ap aq ar aZ au av aw ax ay az a0 a1 a2 a3 a4).bind fun a=>
 if (!a.1) then
 some (false,a.2.1,a.2.2.1,a.2.2.2.1,a.2.2.2.2.1,a.2.2.2.2.2.1,a.2.2.2.2.2.2.1,a.2.2.2.2.2.2.2.1,a.2.2.2.2.2.2.2.2.1,a.2.2.2.2.2.2.2.2.2.1,a.2.2.2.2.2.2.2.2.2.2.1,a.2.2.2.2.2.2.2.2.2.2.2.1,(d4 (d8 a)).1,(d4 (d8 a)).2.1,(d2 (d4 (d8 a))).1,(d2 (d4 (d8 a))).2.1,(d16 a).1,(d16 a).2.1,(d2 (d16 a)).1,(d2 (d16 a)).2.1,(d4 (d16 a)).1,(d4 (d16 a)).2.1,(d2 (d4 (d16 a))).1,(d2 (d4 (d16 a))).2.1,(d8 (d16 a)).1,(d8 (d16 a)).2.1,(d2 (d8 (d16 a))).1,(d2 (d8 (d16 a))).2.1,(d4 (d8 (d16 a))).1,(d4 (d8 (d16 a))).2.1,(d2 (d4 (d8 (d16 a)))).1,(d2 (d4 (d8 (d16 a)))).2.1,(d16 (d16 a)).1,(d16 (d16 a)).2.1,(d2 (d16 (d16 a))).1,(d2 (d16 (d16 a))).2.1,(d4 (d16 (d16 a))).1,(d4 (d16 (d16 a))).2.1,(d2 (d4 (d16 (d16 a)))).1,(d2 (d4 (d16 (d16 a)))).2.1,(d8 (d16 (d16 a))).1,(d8 (d16 (d16 a))).2.1,(d2 (d8 (d16 (d16 a)))).1,(d2 (d8 (d16 (d16 a)))).2.1,(d4 (d8 (d16 (d16 a)))).1,(d4 (d8 (d16 (d16 a)))).2.1,(d2 (d4 (d8 (d16 (d16 a))))).1,(d2 (d4 (d8 (d16 (d16 a))))).2.1,(d16 (d16 (d16 a))).1,(d16 (d16 (d16 a))).2.1,(d2 (d16 (d16 (d16 a)))).1,(d2 (d16 (d16 (d16 a)))).2.1,(d4 (d16 (d16 (d16 a)))).1,(d4 (d16 (d16 (d16 a)))).2.1,(d2 (d4 (d16 (d16 (d16 a))))).1,(d2 (d4 (d16 (d16 (d16 a))))).2.1,(d8 (d16 (d16 (d16 a)))).1,(d8 (d16 (d16 (d16 a)))).2.1,(d2 (d8 (d16 (d16 (d16 a))))).1,(d2 (d8 (d16 (d16 (d16 a))))).2.1,(d4 (d8 (d16 (d16 (d16 a))))).1,(d4 (d8 (d16 (d16 (d16 a))))).2.1,(d2 (d4 (d8 (d16 (d16 (d16 a)))))).1,(d2 (d4 (d8 (d16 (d16 (d16 a)))))).2.1,(d16 (d16 (d16 (d16 a)))).1,(d16 (d16 (d16 (d16 a)))).2.1,(d2 (d16 (d16 (d16 (d16 a))))).1,(d2 (d16 (d16 (d16 (d16 a))))).2.1,(d4 (d16 (d16 (d16 (d16 a))))).1,(d4 (d16 (d16 (d16 (d16 a))))).2.1,(d2 (d4 (d16 (d16 (d16 (d16 a)))))).1,(d2 (d4 (d16 (d16 (d16 (d16 a)))))).2.1,(d8 (d16 (d16 (d16 (d16 a))))).1,(d8 (d16 (d16 (d16 (d16 a))))).2.1,(d2 (d8 (d16 (d16 (d16 (d16 a)))))))
 else
 Wk k c (iop .add .i64 b 1) a.2.1 a.2.2.1 a.2.2.2.1 a.2.2.2.2.1 a.2.2.2.2.2.1 a.2.2.2.2.2.2.1 a.2.2.2.2.2.2.2.1 a.2.2.2.2.2.2.2.2.1 a.2.2.2.2.2.2.2.2.2.1 a.2.2.2.2.2.2.2.2.2.2.1 a.2.2.2.2.2.2.2.2.2.2.2.1 (d4 (d8 a)).1 (d4 (d8 a)).2.1 (d2 (d4 (d8 a))).1 (d2 (d4 (d8 a))).2.1 (d16 a).1 (d16 a).2.1 (d2 (d16 a)).1 (d2 (d16 a)).2.1 (d4 (d16 a)).1 (d4 (d16 a)).2.1 (d2 (d4 (d16 a))).1 (d2 (d4 (d16 a))).2.1 (d8 (d16 a)).1 (d8 (d16 a)).2.1 (d2 (d8 (d16 a))).1 (d2 (d8 (d16 a))).2.1 (d4 (d8 (d16 a))).1 (d4 (d8 (d16 a))).2.1 (d2 (d4 (d8 (d16 a)))).1 (d2 (d4 (d8 (d16 a)))).2.1 (d16 (d16 a)).1 (d16 (d16 a)).2.1 (d2 (d16 (d16 a))).1 (d2 (d16 (d16 a))).2.1 (d4 (d16 (d16 a))).1 (d4 (d16 (d16 a))).2.1 (d2 (d4 (d16 (d16 a)))).1 (d2 (d4 (d16 (d16 a)))).2.1 (d8 (d16 (d16 a))).1 (d8 (d16 (d16 a))).2.1 (d2 (d8 (d16 (d16 a)))).1 (d2 (d8 (d16 (d16 a)))).2.1 (d4 (d8 (d16 (d16 a)))).1 (d4 (d8 (d16 (d16 a)))).2.1 (d2 (d4 (d8 (d16 (d16 a))))).1 (d2 (d4 (d8 (d16 (d16 a))))).2.1 (d16 (d16 (d16 a))).1 (d16 (d16 (d16 a))).2.1 (d2 (d16 (d16 (d16 a)))).1 (d2 (d16 (d16 (d16 a)))).2.1 (d4 (d16 (d16 (d16 a)))).1 (d4 (d16 (d16 (d16 a)))).2.1 (d2 (d4 (d16 (d16 (d16 a))))).1 (d2 (d4 (d16 (d16 (d16 a))))).2.1 (d8 (d16 (d16 (d16 a)))).1 (d8 (d16 (d16 (d16 a)))).2.1 (d2 (d8 (d16 (d16 (d16 a))))).1 (d2 (d8 (d16 (d16 (d16 a))))).2.1 (d4 (d8 (d16 (d16 (d16 a))))).1 (d4 (d8 (d16 (d16 (d16 a))))).2.1 (d2 (d4 (d8 (d16 (d16 (d16 a)))))).1 (d2 (d4 (d8 (d16 (d16 (d16 a)))))).2.1 (d16 (d16 (d16 (d16 a)))).1 (d16 (d16 (d16 (d16 a)))).2.1 (d2 (d16 (d16 (d16 (d16 a))))).1 (d2 (d16 (d16 (d16 (d16 a))))).2.1 (d4 (d16 (d16 (d16 (d16 a))))).1 (d4 (d16 (d16 (d16 (d16 a))))).2.1 (d2 (d4 (d16 (d16 (d16 (d16 a)))))).1 (d2 (d4 (d16 (d16 (d16 (d16 a)))))).2.1 (d8 (d16 (d16 (d16 (d16 a))))).1 (d8 (d16 (d16 (d16 (d16 a))))).2.1 (d2 (d8 (d16 (d16 (d16 (d16 a))))))
 else
 some (true,d,e,f,g,h,i,j,l,m,n,o,p,q,r,s,t,u,v,w,x,y,z,A,C,D,E,G,H,J,K,L,M,N,O,P,Q,R,T,U,V,W,X,Y,Z,aa,ab,ac,ad,ae,af,ag,ah,ai,aj,ak,al,am,an,ao,ap,aq,ar,aZ,au,av,aw,ax,ay,az,a0,a1,a2,a3,a4)):=by kernel_rfl
theorem Zjw (a b c d e f g h i j k l:Int) (m:Bool) (n o p q r s t u v w x y z A C D E G H J:Int) (K:LL) (L M N O P Q:Int) (R:Bool) (T U V W:LL) (X Y:Int) (Z aa ab ac ad ae af ag:LL) (ah ai:Int) (aj ak al am an ao ap aq:LL) (ar:Bool) (aZ:Int) (au av aw ax ay az a0 a1:LL):Zb6 a b c d e f g h i j k l m n o p q r s t u v w x y z A C D E G H J K L M N O P Q R T U V W X Y Z aa ab ac ad ae af ag ah ai aj ak al am an ao ap aq ar aZ au av aw ax ay az a0 a1 =
 (Wk ZB a 1 b c d e f g h i j k l m n o p q r s t u v w x y z A C D E G H J K L M N O P Q R T U V W X Y Z aa ab ac ad ae af ag ah ai aj ak al am an ao ap aq ar aZ au av aw ax ay az a0 a1):=by kernel_rfl
noncomputable def ZzD:Fn:=⟨13,[2],[],[],0,[],[],Tryz.f108,[.agg [.int .i64,.int .i64]],[.c (.bool)],[(89,F89.S),(34,F34.S)]⟩
theorem ZBj:ZzD.S.Ok Tryz.prog 108:=ZzD.ok Tryz.func108 (by kernel_rfl) ⟨Zy6,⟨Zsa,trivial⟩⟩
noncomputable def ZzO (a b:Int):Option (Bool):=ZzD.S.g [.i a,.i b]
theorem Zs0 (a b:Int):ZzO a b =
 ((g89 a).bind fun c=>
 if (!c) then
 some (true)
 else
 (g34 b).bind fun d=>
 some ((!d))):=by kernel_rfl
noncomputable def ZaG:Fn:=⟨19,[4],[(2,[(0,.c (.slice 2)),(1,.clo 108 []),(7,.c (.int .i64)),(8,.c (.int .i64))])],[],0,[],[],Tryz.f178,[.c (.slice 2),.clo 108 []],[.c (.int .i64)],[(108,ZzD.S)]⟩
theorem Zmy:ZaG.S.Ok Tryz.prog 178:=ZaG.ok Tryz.func178 (by kernel_rfl) ⟨ZBj,trivial⟩
noncomputable def ZfF (a:LL):Option (Int):=ZaG.S.g [.l a]
noncomputable def Kx (k:Nat) (a:LL) (b c:Int):Option (Int):=ZaG.lp [0] 0 r0 k [.l a,.i b,.i c]
theorem ZaO (k:Nat) (b:LL) (c a:Int):Kx (k+1) b c a =
 (if (cop .lss a c) then
 Zm b a [.int .i64,.int .i64] fun (d:Int×Int)=>
 (ZzO d.1 d.2).bind fun e=>
 if e then
 some (a)
 else
 Kx k b c (iop .add .i64 a 1)
 else
 some ((-1))):=by kernel_rfl
theorem ZjG (a:LL):ZfF a =
 (Kx ZB a (List.length a:Int) 0):=by kernel_rfl
noncomputable def Zcf:Fn:=⟨9,[4],[],[],0,[],[],Tryz.f107,[.c (.slice 2),.clo 108 []],[.c (.bool)],[(178,ZaG.S)]⟩
theorem ZoL:Zcf.S.Ok Tryz.prog 107:=Zcf.ok Tryz.func107 (by kernel_rfl) ⟨Zmy,trivial⟩
noncomputable def Zcm (a:LL):Option (Bool):=Zcf.S.g [.l a]
theorem ZiH (a:LL):Zcm a =
 ((ZfF a).bind fun b=>
 some ((cop .geq b 0))):=by kernel_rfl
noncomputable def F35:Fn:=⟨114,[4],[],[],0,[],[],Tryz.f35,[.agg hs0,.c (.int .i64)],[.c (.bool)],[(89,F89.S),(90,F90.S),(91,F91.S),(92,F92.S),(93,Zkj.S),(96,F96.S),(97,ZkT.S),(33,F33.S),(100,Zca.S),(102,Za2.S),(104,Zyw.S),(105,ZuJ.S),(106,Zxs.S),(107,Zcf.S)]⟩
theorem ZEW:F35.S.Ok Tryz.prog 35:=F35.ok Tryz.func35 (by kernel_rfl) ⟨Zy6,⟨ZCR,⟨Zy5,⟨ZC5,⟨ZsP,⟨ZC3,⟨Zro,⟨Zz7,⟨ZmP,⟨ZmC,⟨ZAk,⟨Zvy,⟨ZvQ,⟨ZoL,trivial⟩⟩⟩⟩⟩⟩⟩⟩⟩⟩⟩⟩⟩⟩
noncomputable def g35 (a c d e f h j k m n o:Int) (p:Bool) (q r s t u v w x y z A C D E G H J K L M:Int) (N:LL) (O P Q R T U:Int) (V:Bool) (W X Y Z:LL) (aa ab:Int) (ac ad ae af ag ah ai aj:LL) (ak al:Int) (am an ao ap aq ar aZ au:LL) (av:Bool) (aw:Int) (ax ay az a0 a1 a2 a3 a4:LL) (a5:Int):Option (Bool):=F35.S.g [.i a,.i c,.i d,.i e,.i f,.i h,.i j,.i k,.i m,.i n,.i o,.b p,.i q,.i r,.i s,.i t,.i u,.i v,.i w,.i x,.i y,.i z,.i A,.i C,.i D,.i E,.i G,.i H,.i J,.i K,.i L,.i M,.l N,.i O,.i P,.i Q,.i R,.i T,.i U,.b V,.l W,.l X,.l Y,.l Z,.i aa,.i ab,.l ac,.l ad,.l ae,.l af,.l ag,.l ah,.l ai,.l aj,.i ak,.i al,.l am,.l an,.l ao,.l ap,.l aq,.l ar,.l aZ,.l au,.b av,.i aw,.l ax,.l ay,.l az,.l a0,.l a1,.l a2,.l a3,.l a4,.i a5]
theorem KK (g x1 x2 x3 h i j k l m n:Int) (a2:Bool) (o p q r s t u v w x y z A C D E G H J K:Int) (L:LL) (M N O P Q R:Int) (T:Bool) (d c e f:LL) (U V:Int) (W X Y Z aa ab ac ad:LL) (ae af:Int) (ag ah ai aj ak al am an:LL) (ao:Bool) (ap:Int) (aq ar aZ au av aw ax ay:LL) (b:Int):g35 g x1 x2 x3 h i j k l m n a2 o p q r s t u v w x y z A C D E G H J K L M N O P Q R T d c e f U V W X Y Z aa ab ac ad ae af ag ah ai aj ak al am an ao ap aq ar aZ au av aw ax ay b =
 (if (cop .eql b 0) then
 (g89 i).bind fun a=>
 some (a)
 else
 if (cop .eql b 1) then
 (g90 o p q r s t u v w x y z A C D E G H J K L M N O P Q R T).bind fun a=>
 some (a)
 else
 if (cop .eql b 2) then
 (g91 k l m).bind fun a=>
 some (a)
 else
 if (cop .eql b 3) then
 (g92 n).bind fun a=>
 some (a)
 else
 if (cop .eql b 5) then
 if (cop .gtr (List.length c:Int) 8) then
 some (false)
 else
 if (cop .eql g 4) then
 if (cop .neq (List.length c:Int) 1) then
 some (false)
 else
 (ZeG c).bind fun a=>
 some ((!a))
 else
 (ZeG c).bind fun a=>
 some ((!a))
 else
 if (cop .eql b 6) then
 (g96 j).bind fun a=>
 some (a)
 else
 if (cop .eql b 7) then
 if (cop .leq (List.length d:Int) 64) then
 (ZkP d).bind fun a=>
 some ((!a))
 else
 some (false)
 else
 if (cop .eql b 8) then
 (g33 h).bind fun a=>
 some (a)
 else
 if (cop .eql b 9) then
 (Zci e).bind fun a=>
 if (!a) then
 (Zb6 (List.length e:Int) g x1 x2 x3 h i j k l m n a2 o p q r s t u v w x y z A C D E G H J K L M N O P Q R T d c e f U V W X Y Z aa ab ac ad ae af ag ah ai aj ak al am an ao ap aq ar aZ au av aw ax ay).bind fun a3=>
 some (a3.1)
 else
 some (false)
 else
 if (cop .eql b 10) then
 (Zz3 ae af ag ah ai aj ak al am an ao ap aq ar aZ au av aw ax ay).bind fun a=>
 some (a)
 else
 if (cop .eql b 11) then
 (g33 U).bind fun a=>
 some (a)
 else
 if (cop .eql b 12) then
 (Zyj V W X).bind fun a=>
 some (a)
 else
 if (cop .eql b 13) then
 (Zxg Y Z aa ab ac ad).bind fun a=>
 some (a)
 else
 if (cop .eql b 14) then
 if (cop .leq (List.length f:Int) 16) then
 (Zcm f).bind fun a=>
 some ((!a))
 else
 some (false)
 else
 some (true)):=by kernel_rfl
noncomputable def F36:Fn:=⟨85,[],[],[0],0,[],[],Tryz.f36,[.box hs0,.c (.int .i64)],[],[]⟩
theorem ZDQ:F36.S.Ok Tryz.prog 36:=F36.ok Tryz.func36 (by kernel_rfl) trivial
noncomputable def g36 (a c d e f h j k m n o:Int) (p:Bool) (q r s t u v w x y z A C D E G H J K L M:Int) (N:LL) (O P Q R T U:Int) (V:Bool) (W X Y Z:LL) (aa ab:Int) (ac ad ae af ag ah ai aj:LL) (ak al:Int) (am an ao ap aq ar aZ au:LL) (av:Bool) (aw:Int) (ax ay az a0 a1 a2 a3 a4:LL) (a5:Int):Option (Qt5):=F36.S.g [.i a,.i c,.i d,.i e,.i f,.i h,.i j,.i k,.i m,.i n,.i o,.b p,.i q,.i r,.i s,.i t,.i u,.i v,.i w,.i x,.i y,.i z,.i A,.i C,.i D,.i E,.i G,.i H,.i J,.i K,.i L,.i M,.l N,.i O,.i P,.i Q,.i R,.i T,.i U,.b V,.l W,.l X,.l Y,.l Z,.i aa,.i ab,.l ac,.l ad,.l ae,.l af,.l ag,.l ah,.l ai,.l aj,.i ak,.i al,.l am,.l an,.l ao,.l ap,.l aq,.l ar,.l aZ,.l au,.b av,.i aw,.l ax,.l ay,.l az,.l a0,.l a1,.l a2,.l a3,.l a4,.i a5]
theorem KQ (a b c d e f g h i j k:Int) (l:Bool) (m n o p q r s t u v w x y z A C D E G H:Int) (J:LL) (K L M N O P:Int) (Q:Bool) (R T U V:LL) (W X:Int) (Y Z aa ab ac ad ae af:LL) (ag ah:Int) (ai aj ak al am an ao ap:LL) (aq:Bool) (ar:Int) (aZ au av aw ax ay az a0:LL) (a1:Int):g36 a b c d e f g h i j k l m n o p q r s t u v w x y z A C D E G H J K L M N O P Q R T U V W X Y Z aa ab ac ad ae af ag ah ai aj ak al am an ao ap aq ar aZ au av aw ax ay az a0 a1 =
 (if (cop .eql a1 0) then
 some (a,b,c,d,e,0,g,h,i,j,k,l,m,n,o,p,q,r,s,t,u,v,w,x,y,z,A,C,D,E,G,H,J,K,L,M,N,O,P,Q,R,T,U,V,W,X,Y,Z,aa,ab,ac,ad,ae,af,ag,ah,ai,aj,ak,al,am,an,ao,ap,aq,ar,aZ,au,av,aw,ax,ay,az,a0)
 else
 if (cop .eql a1 1) then
 some (a,b,c,d,e,f,g,h,i,j,k,l,0,0,0,0,0,0,0,0,0,0,0,0,0,0,0,0,0,0,0,0,E0,0,0,0,0,0,0,false,R,T,U,V,W,X,Y,Z,aa,ab,ac,ad,ae,af,ag,ah,ai,aj,ak,al,am,an,ao,ap,aq,ar,aZ,au,av,aw,ax,ay,az,a0)
 else
 if (cop .eql a1 2) then
 some (a,b,c,d,e,f,g,0,0,0,k,l,m,n,o,p,q,r,s,t,u,v,w,x,y,z,A,C,D,E,G,H,J,K,L,M,N,O,P,Q,R,T,U,V,W,X,Y,Z,aa,ab,ac,ad,ae,af,ag,ah,ai,aj,ak,al,am,an,ao,ap,aq,ar,aZ,au,av,aw,ax,ay,az,a0)
 else
 if (cop .eql a1 3) then
 some (a,b,c,d,e,f,g,h,i,j,0,l,m,n,o,p,q,r,s,t,u,v,w,x,y,z,A,C,D,E,G,H,J,K,L,M,N,O,P,Q,R,T,U,V,W,X,Y,Z,aa,ab,ac,ad,ae,af,ag,ah,ai,aj,ak,al,am,an,ao,ap,aq,ar,aZ,au,av,aw,ax,ay,az,a0)
 else
 if (cop .eql a1 4) then
 some (a,b,c,d,e,f,g,h,i,j,k,false,m,n,o,p,q,r,s,t,u,v,w,x,y,z,A,C,D,E,G,H,J,K,L,M,N,O,P,Q,R,T,U,V,W,X,Y,Z,aa,ab,ac,ad,ae,af,ag,ah,ai,aj,ak,al,am,an,ao,ap,aq,ar,aZ,au,av,aw,ax,ay,az,a0)
 else
 if (cop .eql a1 5) then
 some (a,b,c,d,e,f,g,h,i,j,k,l,m,n,o,p,q,r,s,t,u,v,w,x,y,z,A,C,D,E,G,H,J,K,L,M,N,O,P,Q,R,E0,U,V,W,X,Y,Z,aa,ab,ac,ad,ae,af,ag,ah,ai,aj,ak,al,am,an,ao,ap,aq,ar,aZ,au,av,aw,ax,ay,az,a0)
 else
 if (cop .eql a1 6) then
 some (a,b,c,d,e,f,0,h,i,j,k,l,m,n,o,p,q,r,s,t,u,v,w,x,y,z,A,C,D,E,G,H,J,K,L,M,N,O,P,Q,R,T,U,V,W,X,Y,Z,aa,ab,ac,ad,ae,af,ag,ah,ai,aj,ak,al,am,an,ao,ap,aq,ar,aZ,au,av,aw,ax,ay,az,a0)
 else
 if (cop .eql a1 7) then
 some (a,b,c,d,e,f,g,h,i,j,k,l,m,n,o,p,q,r,s,t,u,v,w,x,y,z,A,C,D,E,G,H,J,K,L,M,N,O,P,Q,E0,T,U,V,W,X,Y,Z,aa,ab,ac,ad,ae,af,ag,ah,ai,aj,ak,al,am,an,ao,ap,aq,ar,aZ,au,av,aw,ax,ay,az,a0)
 else
 if (cop .eql a1 8) then
 some (a,b,c,d,0,f,g,h,i,j,k,l,m,n,o,p,q,r,s,t,u,v,w,x,y,z,A,C,D,E,G,H,J,K,L,M,N,O,P,Q,R,T,U,V,W,X,Y,Z,aa,ab,ac,ad,ae,af,ag,ah,ai,aj,ak,al,am,an,ao,ap,aq,ar,aZ,au,av,aw,ax,ay,az,a0)
 else
 if (cop .eql a1 9) then
 some (a,b,c,d,e,f,g,h,i,j,k,l,m,n,o,p,q,r,s,t,u,v,w,x,y,z,A,C,D,E,G,H,J,K,L,M,N,O,P,Q,R,T,E0,V,W,X,Y,Z,aa,ab,ac,ad,ae,af,ag,ah,ai,aj,ak,al,am,an,ao,ap,aq,ar,aZ,au,av,aw,ax,ay,az,a0)
 else
 if (cop .eql a1 10) then
 some (a,b,c,d,e,f,g,h,i,j,k,l,m,n,o,p,q,r,s,t,u,v,w,x,y,z,A,C,D,E,G,H,J,K,L,M,N,O,P,Q,R,T,U,V,W,X,Y,Z,aa,ab,ac,ad,ae,af,0,0,E0,E0,E0,E0,E0,E0,E0,E0,false,0,E0,E0,E0,E0,E0,E0,E0,E0)
 else
 if (cop .eql a1 11) then
 some (a,b,c,d,e,f,g,h,i,j,k,l,m,n,o,p,q,r,s,t,u,v,w,x,y,z,A,C,D,E,G,H,J,K,L,M,N,O,P,Q,R,T,U,V,0,X,Y,Z,aa,ab,ac,ad,ae,af,ag,ah,ai,aj,ak,al,am,an,ao,ap,aq,ar,aZ,au,av,aw,ax,ay,az,a0)
 else
 if (cop .eql a1 12) then
 some (a,b,c,d,e,f,g,h,i,j,k,l,m,n,o,p,q,r,s,t,u,v,w,x,y,z,A,C,D,E,G,H,J,K,L,M,N,O,P,Q,R,T,U,V,W,0,E0,E0,aa,ab,ac,ad,ae,af,ag,ah,ai,aj,ak,al,am,an,ao,ap,aq,ar,aZ,au,av,aw,ax,ay,az,a0)
 else
 if (cop .eql a1 13) then
 some (a,b,c,d,e,f,g,h,i,j,k,l,m,n,o,p,q,r,s,t,u,v,w,x,y,z,A,C,D,E,G,H,J,K,L,M,N,O,P,Q,R,T,U,V,W,X,Y,Z,E0,E0,E0,E0,E0,E0,ag,ah,ai,aj,ak,al,am,an,ao,ap,aq,ar,aZ,au,av,aw,ax,ay,az,a0)
 else
 if (cop .eql a1 14) then
 some (a,b,c,d,e,f,g,h,i,j,k,l,m,n,o,p,q,r,s,t,u,v,w,x,y,z,A,C,D,E,G,H,J,K,L,M,N,O,P,Q,R,T,U,E0,W,X,Y,Z,aa,ab,ac,ad,ae,af,ag,ah,ai,aj,ak,al,am,an,ao,ap,aq,ar,aZ,au,av,aw,ax,ay,az,a0)
 else
 some (a,b,c,d,e,f,g,h,i,j,k,l,m,n,o,p,q,r,s,t,u,v,w,x,y,z,A,C,D,E,G,H,J,K,L,M,N,O,P,Q,R,T,U,V,W,X,Y,Z,aa,ab,ac,ad,ae,af,ag,ah,ai,aj,ak,al,am,an,ao,ap,aq,ar,aZ,au,av,aw,ax,ay,az,a0)):=by kernel_rfl
noncomputable def ZyE:Fn:=⟨29,[2],[],[],0,[],[],Tryz.f109,[.agg hs6],[.c (.bool)],[(164,Zu6.S)]⟩
theorem ZBh:ZyE.S.Ok Tryz.prog 109:=ZyE.ok Tryz.func109 (by kernel_rfl) ⟨Zr2,trivial⟩
noncomputable def ZBv (a c d e f h j k m n o p q r s t u v w x:Int) (y:LL) (z A C D E G:Int) (H:Bool):Option (Bool):=ZyE.S.g [.i a,.i c,.i d,.i e,.i f,.i h,.i j,.i k,.i m,.i n,.i o,.i p,.i q,.i r,.i s,.i t,.i u,.i v,.i w,.i x,.l y,.i z,.i A,.i C,.i D,.i E,.i G,.b H]
theorem Zup (a b c d e f g h i j k l m n o p q r s t:Int) (u:LL) (v w x y z A:Int) (C:Bool):ZBv a b c d e f g h i j k l m n o p q r s t u v w x y z A C =
 (if ((cop .eql a 0)&&((cop .eql b 0)&&((cop .eql c 0)&&true))) then
 if ((cop .eql d 0)&&((cop .eql e 0)&&((cop .eql f 0)&&((cop .eql g 0)&&((cop .eql h 0)&&((cop .eql i 0)&&((cop .eql j 0)&&((cop .eql k 0)&&((cop .eql l 0)&&((cop .eql m 0)&&((cop .eql n 0)&&((cop .eql o 0)&&true)))))))))))) then
 if (cop .eql p 0) then
 if (cop .eql q 0) then
 (ZtX r s t u v w x y z A C 0 0 0 E0 0 0 0 0 0 0 false).bind fun D=>
 some (D)
 else
 some (false)
 else
 some (false)
 else
 some (false)
 else
 some (false)):=by kernel_rfl
noncomputable def Zvv:Fn:=⟨18,[2],[],[],0,[],[],Tryz.f110,[.agg [.int .i64,.slice 1,.slice 1]],[.c (.bool)],[]⟩
theorem Zva:Zvv.S.Ok Tryz.prog 110:=Zvv.ok Tryz.func110 (by kernel_rfl) trivial
noncomputable def ZwZ (a:Int) (b c:LL):Option (Bool):=Zvv.S.g [.i a,.l b,.l c]
theorem ZtB (a:Int) (b c:LL):ZwZ a b c =
 (if (cop .eql a 0) then
 if (cop .eql (List.length b:Int) 0) then
 some ((cop .eql (List.length c:Int) 0))
 else
 some (false)
 else
 some (false)):=by kernel_rfl
noncomputable def Zwq:Fn:=⟨37,[2],[],[],0,[],[],Tryz.f111,[.agg hs30],[.c (.bool)],[]⟩
theorem Zym:Zwq.S.Ok Tryz.prog 111:=Zwq.ok Tryz.func111 (by kernel_rfl) trivial
noncomputable def Zv2 (a b c d e f:LL):Option (Bool):=Zwq.S.g [.l a,.l b,.l c,.l d,.l e,.l f]
theorem Zt6 (a b c d e f:LL):Zv2 a b c d e f =
 (if (cop .eql (List.length a:Int) 0) then
 if (cop .eql (List.length b:Int) 0) then
 if (cop .eql (List.length c:Int) 0) then
 if (cop .eql (List.length d:Int) 0) then
 if (cop .eql (List.length e:Int) 0) then
 some ((cop .eql (List.length f:Int) 0))
 else
 some (false)
 else
 some (false)
 else
 some (false)
 else
 some (false)
 else
 some (false)):=by kernel_rfl
noncomputable def ZyT:Fn:=⟨31,[2],[],[],0,[],[],Tryz.f112,[.agg hs7],[.c (.bool)],[(110,Zvv.S),(111,Zwq.S)]⟩
theorem ZAb:ZyT.S.Ok Tryz.prog 112:=ZyT.ok Tryz.func112 (by kernel_rfl) ⟨Zva,⟨Zym,trivial⟩⟩
noncomputable def ZBr (a c:Int) (d e f h j k m n:LL) (o:Bool) (p:Int) (q r s t u v w x:LL):Option (Bool):=ZyT.S.g [.i a,.i c,.l d,.l e,.l f,.l h,.l j,.l k,.l m,.l n,.b o,.i p,.l q,.l r,.l s,.l t,.l u,.l v,.l w,.l x]
theorem Zud (a b:Int) (c d e f g h i j:LL) (k:Bool) (l:Int) (m n o p q r s t:LL):ZBr a b c d e f g h i j k l m n o p q r s t =
 (if (cop .eql a 0) then
 (ZwZ b c d).bind fun u=>
 if u then
 (Zv2 e f g h i j).bind fun v=>
 if v then
 if (!k) then
 (ZwZ l m n).bind fun w=>
 if w then
 (Zv2 o p q r s t).bind fun x=>
 some (x)
 else
 some (false)
 else
 some (false)
 else
 some (false)
 else
 some (false)
 else
 some (false)):=by kernel_rfl
noncomputable def F37:Fn:=⟨81,[2],[],[],0,[],[],Tryz.f37,[.agg hs0],[.c (.bool)],[(109,ZyE.S),(110,Zvv.S),(111,Zwq.S),(112,ZyT.S)]⟩
theorem ZEs:F37.S.Ok Tryz.prog 37:=F37.ok Tryz.func37 (by kernel_rfl) ⟨ZBh,⟨Zva,⟨Zym,⟨ZAb,trivial⟩⟩⟩⟩
noncomputable def g37 (a c d e f h j k m n o:Int) (p:Bool) (q r s t u v w x y z A C D E G H J K L M:Int) (N:LL) (O P Q R T U:Int) (V:Bool) (W X Y Z:LL) (aa ab:Int) (ac ad ae af ag ah ai aj:LL) (ak al:Int) (am an ao ap aq ar aZ au:LL) (av:Bool) (aw:Int) (ax ay az a0 a1 a2 a3 a4:LL):Option (Bool):=F37.S.g [.i a,.i c,.i d,.i e,.i f,.i h,.i j,.i k,.i m,.i n,.i o,.b p,.i q,.i r,.i s,.i t,.i u,.i v,.i w,.i x,.i y,.i z,.i A,.i C,.i D,.i E,.i G,.i H,.i J,.i K,.i L,.i M,.l N,.i O,.i P,.i Q,.i R,.i T,.i U,.b V,.l W,.l X,.l Y,.l Z,.i aa,.i ab,.l ac,.l ad,.l ae,.l af,.l ag,.l ah,.l ai,.l aj,.i ak,.i al,.l am,.l an,.l ao,.l ap,.l aq,.l ar,.l aZ,.l au,.b av,.i aw,.l ax,.l ay,.l az,.l a0,.l a1,.l a2,.l a3,.l a4]
theorem Zx4 (x0 x1 x2 x3 a b c d e f g:Int) (h:Bool) (i j k l m n o p q r s t u v w x y z A C:Int) (D:LL) (E G H J K L:Int) (M:Bool) (N O P Q:LL) (R T:Int) (U V W X Y Z aa ab:LL) (ac ad:Int) (ae af ag ah ai aj ak al:LL) (am:Bool) (an:Int) (ao ap aq ar aZ au av aw:LL):g37 x0 x1 x2 x3 a b c d e f g h i j k l m n o p q r s t u v w x y z A C D E G H J K L M N O P Q R T U V W X Y Z aa ab ac ad ae af ag ah ai aj ak al am an ao ap aq ar aZ au av aw =
 (if (cop .eql a 0) then
 if (cop .eql b 0) then
 if (cop .eql c 0) then
 if ((cop .eql d 0)&&((cop .eql e 0)&&((cop .eql f 0)&&true))) then
 if (cop .eql g 0) then
 if (!h) then
 (ZBv i j k l m n o p q r s t u v w x y z A C D E G H J K L M).bind fun a1=>
 if a1 then
 if (cop .eql (List.length N:Int) 0) then
 if (cop .eql (List.length O:Int) 0) then
 if (cop .eql (List.length P:Int) 0) then
 if (cop .eql (List.length Q:Int) 0) then
 if (cop .eql R 0) then
 (ZwZ T U V).bind fun a2=>
 if a2 then
 (Zv2 W X Y Z aa ab).bind fun a3=>
 if a3 then
 (ZBr ac ad ae af ag ah ai aj ak al am an ao ap aq ar aZ au av aw).bind fun a4=>
 some (a4)
 else
 some (false)
 else
 some (false)
 else
 some (false)
 else
 some (false)
 else
 some (false)
 else
 some (false)
 else
 some (false)
 else
 some (false)
 else
 some (false)
 else
 some (false)
 else
 some (false)
 else
 some (false)
 else
 some (false)
 else
 some (false)):=by kernel_rfl
noncomputable def F12:Fn:=⟨50,[2],[(6,[(1,.box hs0),(5,.box hs0),(35,.c (.slice 1)),(36,.c (.int .i64)),(37,.c (.int .i64))])],[],0,[],[],Tryz.f12,[.agg hs0],[.c (.bool)],[(32,F32.S),(33,F33.S),(34,F34.S),(35,F35.S),(36,F36.S),(37,F37.S)]⟩
theorem ZDn:F12.S.Ok Tryz.prog 12:=F12.ok Tryz.func12 (by kernel_rfl) ⟨ZB5,⟨Zz7,⟨Zsa,⟨ZEW,⟨ZDQ,⟨ZEs,trivial⟩⟩⟩⟩⟩⟩
noncomputable def g12 (a c d e f h j k m n o:Int) (p:Bool) (q r s t u v w x y z A C D E G H J K L M:Int) (N:LL) (O P Q R T U:Int) (V:Bool) (W X Y Z:LL) (aa ab:Int) (ac ad ae af ag ah ai aj:LL) (ak al:Int) (am an ao ap aq ar aZ au:LL) (av:Bool) (aw:Int) (ax ay az a0 a1 a2 a3 a4:LL):Option (Bool):=F12.S.g [.i a,.i c,.i d,.i e,.i f,.i h,.i j,.i k,.i m,.i n,.i o,.b p,.i q,.i r,.i s,.i t,.i u,.i v,.i w,.i x,.i y,.i z,.i A,.i C,.i D,.i E,.i G,.i H,.i J,.i K,.i L,.i M,.l N,.i O,.i P,.i Q,.i R,.i T,.i U,.b V,.l W,.l X,.l Y,.l Z,.i aa,.i ab,.l ac,.l ad,.l ae,.l af,.l ag,.l ah,.l ai,.l aj,.i ak,.i al,.l am,.l an,.l ao,.l ap,.l aq,.l ar,.l aZ,.l au,.b av,.i aw,.l ax,.l ay,.l az,.l a0,.l a1,.l a2,.l a3,.l a4]
noncomputable def Zqk (k:Nat) (a c d e f g h j m n o:Int) (p:Bool) (q r s t u v w x y z A C D E G H J K L M:Int) (N:LL) (O P Q R T U:Int) (V:Bool) (W X Y Z:LL) (aa ab:Int) (ac ad ae af ag ah ai aj:LL) (ak al:Int) (am an ao ap aq ar aZ au:LL) (av:Bool) (aw:Int) (ax ay az a0 a1 a2 a3 a4:LL) (a5 a6 a7 a8 a9 ba bb bc bd be bf:Int) (bg:Bool) (bh bi bj bk bl bm bn bo bp bq br bs bt bu bv bw bx bz b0 b1:Int) (b2:LL) (b3 b4 b5 b6 b7 b8:Int) (b9:Bool) (ca cb cc cd:LL) (ce cf:Int) (cg ch ci cj ck cl cm cn:LL) (co cp:Int) (cq cr cs ct cu cv cw cx:LL) (cy:Bool) (cz:Int) (c0 c1 c2 c3 c4 c5 c6 c7 c8:LL) (c9 da:Int):Option (Bool):=F12.lp [0,1,0,1,0,1,0,1,0] 0 r0 k [.i a,.i c,.i d,.i e,.i f,.i g,.i h,.i j,.i m,.i n,.i o,.b p,.i q,.i r,.i s,.i t,.i u,.i v,.i w,.i x,.i y,.i z,.i A,.i C,.i D,.i E,.i G,.i H,.i J,.i K,.i L,.i M,.l N,.i O,.i P,.i Q,.i R,.i T,.i U,.b V,.l W,.l X,.l Y,.l Z,.i aa,.i ab,.l ac,.l ad,.l ae,.l af,.l ag,.l ah,.l ai,.l aj,.i ak,.i al,.l am,.l an,.l ao,.l ap,.l aq,.l ar,.l aZ,.l au,.b av,.i aw,.l ax,.l ay,.l az,.l a0,.l a1,.l a2,.l a3,.l a4,.i a5,.i a6,.i a7,.i a8,.i a9,.i ba,.i bb,.i bc,.i bd,.i be,.i bf,.b bg,.i bh,.i bi,.i bj,.i bk,.i bl,.i bm,.i bn,.i bo,.i bp,.i bq,.i br,.i bs,.i bt,.i bu,.i bv,.i bw,.i bx,.i bz,.i b0,.i b1,.l b2,.i b3,.i b4,.i b5,.i b6,.i b7,.i b8,.b b9,.l ca,.l cb,.l cc,.l cd,.i ce,.i cf,.l cg,.l ch,.l ci,.l cj,.l ck,.l cl,.l cm,.l cn,.i co,.i cp,.l cq,.l cr,.l cs,.l ct,.l cu,.l cv,.l cw,.l cx,.b cy,.i cz,.l c0,.l c1,.l c2,.l c3,.l c4,.l c5,.l c6,.l c7,.l c8,.i c9,.i da]
theorem Zj0 (k:Nat) (d e f g h i j l m n o:Int) (p:Bool) (q r s t u v w x y z A C D E G H J K L M:Int) (N:LL) (O P Q R T U:Int) (V:Bool) (W X Y Z:LL) (aa ab:Int) (ac ad ae af ag ah ai aj:LL) (ak al:Int) (am an ao ap aq ar aZ au:LL) (av:Bool) (aw:Int) (ax ay az a0 a1 a2 a3 a4:LL) (a5 a6 a7 a8 a9 ba bb bc bd be bf:Int) (bg:Bool) (bh bi bj bk bl bm bn bo bp bq br bs bt bu bv bw bx bz b0 b1:Int) (b2:LL) (b3 b4 b5 b6 b7 b8:Int) (b9:Bool) (ca cb cc cd:LL) (ce cf:Int) (cg ch ci cj ck cl cm cn:LL) (co cp:Int) (cq cr cs ct cu cv cw cx:LL) (cy:Bool) (cz:Int) (c0 c1 c2 c3 c4 c5 c6 c7 c8:LL) (c9 b:Int):Zqk (k+1) d e f g h i j l m n o p q r s t u v w x y z A C D E G H J K L M N O P Q R T U V W X Y Z aa ab ac ad ae af ag ah ai aj ak al am an ao ap aq ar aZ au av aw ax ay az a0 a1 a2 a3 a4 a5 a6 a7 a8 a9 ba bb bc bd be bf bg bh bi bj bk bl bm bn bo bp bq br bs bt bu bv bw bx bz b0 b1 b2 b3 b4 b5 b6 b7 b8 b9 ca cb cc cd ce cf cg ch ci cj ck cl cm cn co cp cq cr cs ct cu cv cw cx cy cz c0 c1 c2 c3 c4 c5 c6 c7 c8 c9 b =
 (if (cop .lss b c9) then
 Zm c8 b [.int .i64] fun (c:Int)=>
 (g35 d e f g h i j l m n o p q r s t u v w x y z A C D E G H J K L M N O P Q R T U V W X Y Z aa ab ac ad ae af ag ah ai aj ak al am an ao ap aq ar aZ au av aw ax ay az a0 a1 a2 a3 a4 c).bind fun da=>
 if (!da) then
 some (false)
 else
 (g36 a5 a6 a7 a8 a9 ba bb bc bd be bf bg bh bi bj bk bl bm bn bo bp bq br bs bt bu bv bw bx bz b0 b1 b2 b3 b4 b5 b6 b7 b8 b9 ca cb cc cd ce cf cg ch ci cj ck cl cm cn co cp cq cr cs ct cu cv cw cx cy cz c0 c1 c2 c3 c4 c5 c6 c7 c).bind fun a=>
 Zqk k d e f g h i j l m n o p q r s t u v w x y z A C D E G H J K L M N O P Q R T U V W X Y Z aa ab ac ad ae af ag ah ai aj ak al am an ao ap aq ar aZ au av aw ax ay az a0 a1 a2 a3 a4 a.1 a.2.1 a.2.2.1 a.2.2.2.1 a.2.2.2.2.1 a.2.2.2.2.2.1 a.2.2.2.2.2.2.1 a.2.2.2.2.2.2.2.1 a.2.2.2.2.2.2.2.2.1 a.2.2.2.2.2.2.2.2.2.1 a.2.2.2.2.2.2.2.2.2.2.1 a.2.2.2.2.2.2.2.2.2.2.2.1 (d4 (d8 a)).1 (d4 (d8 a)).2.1 (d2 (d4 (d8 a))).1 (d2 (d4 (d8 a))).2.1 (d16 a).1 (d16 a).2.1 (d2 (d16 a)).1 (d2 (d16 a)).2.1 (d4 (d16 a)).1 (d4 (d16 a)).2.1 (d2 (d4 (d16 a))).1 (d2 (d4 (d16 a))).2.1 (d8 (d16 a)).1 (d8 (d16 a)).2.1 (d2 (d8 (d16 a))).1 (d2 (d8 (d16 a))).2.1 (d4 (d8 (d16 a))).1 (d4 (d8 (d16 a))).2.1 (d2 (d4 (d8 (d16 a)))).1 (d2 (d4 (d8 (d16 a)))).2.1 (d16 (d16 a)).1 (d16 (d16 a)).2.1 (d2 (d16 (d16 a))).1 (d2 (d16 (d16 a))).2.1 (d4 (d16 (d16 a))).1 (d4 (d16 (d16 a))).2.1 (d2 (d4 (d16 (d16 a)))).1 (d2 (d4 (d16 (d16 a)))).2.1 (d8 (d16 (d16 a))).1 (d8 (d16 (d16 a))).2.1 (d2 (d8 (d16 (d16 a)))).1 (d2 (d8 (d16 (d16 a)))).2.1 (d4 (d8 (d16 (d16 a)))).1 (d4 (d8 (d16 (d16 a)))).2.1 (d2 (d4 (d8 (d16 (d16 a))))).1 (d2 (d4 (d8 (d16 (d16 a))))).2.1 (d16 (d16 (d16 a))).1 (d16 (d16 (d16 a))).2.1 (d2 (d16 (d16 (d16 a)))).1 (d2 (d16 (d16 (d16 a)))).2.1 (d4 (d16 (d16 (d16 a)))).1 (d4 (d16 (d16 (d16 a)))).2.1 (d2 (d4 (d16 (d16 (d16 a))))).1 (d2 (d4 (d16 (d16 (d16 a))))).2.1 (d8 (d16 (d16 (d16 a)))).1 (d8 (d16 (d16 (d16 a)))).2.1 (d2 (d8 (d16 (d16 (d16 a))))).1 (d2 (d8 (d16 (d16 (d16 a))))).2.1 (d4 (d8 (d16 (d16 (d16 a))))).1 (d4 (d8 (d16 (d16 (d16 a))))).2.1 (d2 (d4 (d8 (d16 (d16 (d16 a)))))).1 (d2 (d4 (d8 (d16 (d16 (d16 a)))))).2.1 (d16 (d16 (d16 (d16 a)))).1 (d16 (d16 (d16 (d16 a)))).2.1 (d2 (d16 (d16 (d16 (d16 a))))).1 (d2 (d16 (d16 (d16 (d16 a))))).2.1 (d4 (d16 (d16 (d16 (d16 a))))).1 (d4 (d16 (d16 (d16 (d16 a))))).2.1 (d2 (d4 (d16 (d16 (d16 (d16 a)))))).1 (d2 (d4 (d16 (d16 (d16 (d16 a)))))).2.1 (d8 (d16 (d16 (d16 (d16 a))))).1 (d8 (d16 (d16 (d16 (d16 a))))).2 c8 c9 (iop .add .i64 b 1)
 else
 (g37 a5 a6 a7 a8 a9 ba bb bc bd be bf bg bh bi bj bk bl bm bn bo bp bq br bs bt bu bv bw bx bz b0 b1 b2 b3 b4 b5 b6 b7 b8 b9 ca cb cc cd ce cf cg ch ci cj ck cl cm cn co cp cq cr cs ct cu cv cw cx cy cz c0 c1 c2 c3 c4 c5 c6 c7).bind fun c=>
 some (c)):=by kernel_rfl
theorem Zw2 (a b c d e f g h i j k:Int) (l:Bool) (m n o p q r s t u v w x y z A C D E G H:Int) (J:LL) (K L M N O P:Int) (Q:Bool) (R T U V:LL) (W X:Int) (Y Z aa ab ac ad ae af:LL) (ag ah:Int) (ai aj ak al am an ao ap:LL) (aq:Bool) (ar:Int) (aZ au av aw ax ay az a0:LL):g12 a b c d e f g h i j k l m n o p q r s t u v w x y z A C D E G H J K L M N O P Q R T U V W X Y Z aa ab ac ad ae af ag ah ai aj ak al am an ao ap aq ar aZ au av aw ax ay az a0 =
 ((g32 a).bind fun a1=>
 if (!a1.2) then
 some (false)
 else
 (g33 b).bind fun a2=>
 if (!a2) then
 some (false)
 else
 (g34 c).bind fun a3=>
 if (!a3) then
 some (false)
 else
 (g34 d).bind fun a4=>
 if (!a4) then
 some (false)
 else
 Zqk ZB a b c d e f g h i j k l m n o p q r s t u v w x y z A C D E G H J K L M N O P Q R T U V W X Y Z aa ab ac ad ae af ag ah ai aj ak al am an ao ap aq ar aZ au av aw ax ay az a0 a b c d e f g h i j k l m n o p q r s t u v w x y z A C D E G H J K L M N O P Q R T U V W X Y Z aa ab ac ad ae af ag ah ai aj ak al am an ao ap aq ar aZ au av aw ax ay az a0 a1.1 (List.length a1.1:Int) 0):=by kernel_rfl
noncomputable def Zwf:Fn:=⟨31,[2],[],[],0,[],[],Tryz.f128,[.agg [.int .i64,.int .i64,.int .i64]],[.c (.bool)],[]⟩
theorem ZwJ:Zwf.S.Ok Tryz.prog 128:=Zwf.ok Tryz.func128 (by kernel_rfl) trivial
noncomputable def ZvI (a b c:Int):Option (Bool):=Zwf.S.g [.i a,.i b,.i c]
theorem Zsv (a b c:Int):ZvI a b c =
 (if (cop .geq a 0) then
 if (cop .lss a 32) then
 if (cop .geq b 1) then
 if (cop .leq b 1073741824) then
 if (cop .geq c 0) then
 some ((cop .lss c 8))
 else
 some (false)
 else
 some (false)
 else
 some (false)
 else
 some (false)
 else
 some (false)):=by kernel_rfl
noncomputable def F69:Fn:=⟨26,[4],[(4,[(0,.c (.slice 3)),(1,.c (.slice 3)),(5,.c (.int .i64))])],[],0,[],[],Tryz.f69,[.c (.slice 3),.c (.slice 3)],[.c (.bool)],[]⟩
theorem ZCg:F69.S.Ok Tryz.prog 69:=F69.ok Tryz.func69 (by kernel_rfl) trivial
noncomputable def g69 (a b:LL):Option (Bool):=F69.S.g [.l a,.l b]
noncomputable def ZpW (k:Nat) (a b:LL) (c:Int):Option (Bool):=F69.lp [1,0] 0 r0 k [.l a,.l b,.i c]
theorem ZjY (k:Nat) (b c:LL) (a:Int):ZpW (k+1) b c a =
 (if (cop .lss a (List.length b:Int)) then
 Zm b a [.int .i64,.int .i64,.int .i64] fun (d:Int×Int×Int)=>
 Zm c a [.int .i64,.int .i64,.int .i64] fun (e:Int×Int×Int)=>
 if (!((cop .eql d.1 e.1)&&((cop .eql d.2.1 e.2.1)&&((cop .eql d.2.2 e.2.2)&&true)))) then
 some (false)
 else
 ZpW k b c (iop .add .i64 a 1)
 else
 some (true)):=by kernel_rfl
theorem Zx2 (a b:LL):g69 a b =
 (if (cop .neq (List.length a:Int) (List.length b:Int)) then
 some (false)
 else
 ZpW ZB a b 0):=by kernel_rfl
noncomputable def Ztn:Fn:=⟨24,[4],[],[],0,[],[],Tryz.f127,[.agg hs16,.agg hs16],[.c (.bool)],[(69,F69.S)]⟩
theorem Zqb:Ztn.S.Ok Tryz.prog 127:=Ztn.ok Tryz.func127 (by kernel_rfl) ⟨ZCg,trivial⟩
noncomputable def ZuT (a c d:Int) (e:LL) (f h j k m n:Int) (o:Bool) (p q r:Int) (s:LL) (t u v w x y:Int) (z:Bool):Option (Bool):=Ztn.S.g [.i a,.i c,.i d,.l e,.i f,.i h,.i j,.i k,.i m,.i n,.b o,.i p,.i q,.i r,.l s,.i t,.i u,.i v,.i w,.i x,.i y,.b z]
theorem ZtH (a b c:Int) (d:LL) (e f g h i j:Int) (k:Bool) (l m n:Int) (o:LL) (p q r s t u:Int) (v:Bool):ZuT a b c d e f g h i j k l m n o p q r s t u v =
 (if ((cop .eql a l)&&((cop .eql b m)&&((cop .eql c n)&&true))) then
 if ((cop .eql e p)&&((cop .eql f q)&&((cop .eql g r)&&((cop .eql h s)&&((cop .eql i t)&&((cop .eql j u)&&((k == v)&&true))))))) then
 (g69 d o).bind fun w=>
 some (w)
 else
 some (false)
 else
 some (false)):=by kernel_rfl
noncomputable def Zze:Fn:=⟨12,[2],[],[],0,[],[],Tryz.f195,[.c (.int .i64)],[.c (.int .i64)],[]⟩
theorem ZBo:Zze.S.Ok Tryz.prog 195:=Zze.ok Tryz.func195 (by kernel_rfl) trivial
noncomputable def ZCs (a:Int):Option (Int):=Zze.S.g [.i a]
theorem Zsf (a:Int):ZCs a =
 (if (cop .eql a 3) then
 some (12)
 else
 if (cop .eql a 4) then
 some (6)
 else
 if (cop .eql a 5) then
 some (10)
 else
 if (cop .eql a 6) then
 some (16)
 else
 some (0)):=by kernel_rfl
noncomputable def ZwA:Fn:=⟨35,[4],[],[],0,[],[],Tryz.f162,[.c (.int .i64),.c (.int .i64)],[.c (.bool)],[(195,Zze.S)]⟩
theorem Zxh:ZwA.S.Ok Tryz.prog 162:=ZwA.ok Tryz.func162 (by kernel_rfl) ⟨ZBo,trivial⟩
noncomputable def Zzd (a b:Int):Option (Bool):=ZwA.S.g [.i a,.i b]
theorem Ztp (a b:Int):Zzd a b =
 (if (cop .eql a 1) then
 if (cop .geq b 6) then
 some ((cop .leq b 40))
 else
 some (false)
 else
 if (cop .eql a 2) then
 if (cop .geq b 12) then
 some ((cop .leq b 40))
 else
 some (false)
 else
 if (cop .geq a 3) then
 if (cop .leq a 6) then
 (ZCs a).bind fun c=>
 some ((cop .eql b c))
 else
 some (false)
 else
 some (false)):=by kernel_rfl
noncomputable def ZwP:Fn:=⟨8,[2],[],[],0,[],[],Tryz.f159,[.agg hs27],[.agg [.int .i64,.int .i64]],[]⟩
theorem Zyg:ZwP.S.Ok Tryz.prog 159:=ZwP.ok Tryz.func159 (by kernel_rfl) trivial
noncomputable def ZoE (a c d e f h:Int) (j:Bool):Option (Int×Int):=ZwP.S.g [.i a,.i c,.i d,.i e,.i f,.i h,.b j]
theorem Zuu (c a b d e f:Int) (g:Bool):ZoE c a b d e f g =
 (some (a,b)):=by kernel_rfl
noncomputable def Zrs:Fn:=⟨38,[2],[],[],0,[],[],Tryz.f185,[.agg [.int .i64,.int .i64]],[.c (.bool)],[]⟩
theorem Zpg:Zrs.S.Ok Tryz.prog 185:=Zrs.ok Tryz.func185 (by kernel_rfl) trivial
noncomputable def ZqS (a b:Int):Option (Bool):=Zrs.S.g [.i a,.i b]
theorem ZsB (b a:Int):ZqS b a =
 (if (cop .lss a 6) then
 some (false)
 else
 if (cop .gtr a 40) then
 some (false)
 else
 if (cop .lss b 0) then
 some (false)
 else
 if (cop .geq b 1099511627776) then
 some (false)
 else
 Zz ((0:Int)≤(IntKind.wrap .u64 a))<|
 Zz (((iop .shl .i64 1 (IntKind.wrap .u64 a)):Int)≠0)<|
 if (cop .eql (iop .rem .i64 b (iop .shl .i64 1 (IntKind.wrap .u64 a))) 0) then
 some ((cop .leq (iop .add .i64 b (iop .shl .i64 1 (IntKind.wrap .u64 a))) 1099511627776))
 else
 some (false)):=by kernel_rfl
noncomputable def Zxq:Fn:=⟨23,[4],[],[],0,[],[],Tryz.f163,[.c (.int .i64),.c (.int .i64)],[.c (.bool)],[]⟩
theorem ZwL:Zxq.S.Ok Tryz.prog 163:=Zxq.ok Tryz.func163 (by kernel_rfl) trivial
noncomputable def Zy3 (a b:Int):Option (Bool):=Zxq.S.g [.i a,.i b]
theorem ZrS (b a:Int):Zy3 b a =
 (if (cop .geq a 0) then
 if (cop .eql b 32) then
 if (cop .leq a 1) then
 some (true)
 else
 if (cop .eql b 39) then
 some ((cop .leq a 2))
 else
 some (false)
 else
 if (cop .eql b 39) then
 some ((cop .leq a 2))
 else
 some (false)
 else
 some (false)):=by kernel_rfl
noncomputable def ZuP:Fn:=⟨64,[2],[],[],0,[],[],Tryz.f130,[.agg hs27],[.c (.bool)],[(162,ZwA.S),(159,ZwP.S),(185,Zrs.S),(163,Zxq.S)]⟩
theorem Zsq:ZuP.S.Ok Tryz.prog 130:=ZuP.ok Tryz.func130 (by kernel_rfl) ⟨Zxh,⟨Zyg,⟨Zpg,⟨ZwL,trivial⟩⟩⟩⟩
noncomputable def ZvC (a c d e f h:Int) (j:Bool):Option (Bool):=ZuP.S.g [.i a,.i c,.i d,.i e,.i f,.i h,.b j]
theorem Zt3 (a g f e c d:Int) (b:Bool):ZvC a g f e c d b =
 ((Zzd a f).bind fun i=>
 if (!i) then
 some (false)
 else
 (ZoE a g f e c d b).bind fun h=>
 (ZqS h.1 h.2).bind fun j=>
 if (!j) then
 some (false)
 else
 if (cop .lss e 0) then
 some (false)
 else
 if (cop .gtr e 7) then
 some (false)
 else
 if (cop .eql a 3) then
 (Zy3 c d).bind fun k=>
 if (!k) then
 some (false)
 else
 if (cop .neq a 3) then
 if (cop .neq c 0) then
 some (false)
 else
 if (cop .neq d 0) then
 some (false)
 else
 if (!b) then
 some (true)
 else
 if (cop .eql a 1) then
 some (true)
 else
 some ((cop .eql a 2))
 else
 if (!b) then
 some (true)
 else
 if (cop .eql a 1) then
 some (true)
 else
 some ((cop .eql a 2))
 else
 if (cop .neq a 3) then
 if (cop .neq c 0) then
 some (false)
 else
 if (cop .neq d 0) then
 some (false)
 else
 if (!b) then
 some (true)
 else
 if (cop .eql a 1) then
 some (true)
 else
 some ((cop .eql a 2))
 else
 if (!b) then
 some (true)
 else
 if (cop .eql a 1) then
 some (true)
 else
 some ((cop .eql a 2))):=by kernel_rfl
noncomputable def F78:Fn:=⟨18,[4],[(2,[(0,.c (.slice 3)),(3,.box [.int .i64,.int .i64,.int .i64]),(5,.c (.int .i64))])],[],0,[],[],Tryz.f78,[.c (.slice 3),.agg [.int .i64,.int .i64,.int .i64]],[.c (.bool)],[]⟩
theorem ZzR:F78.S.Ok Tryz.prog 78:=F78.ok Tryz.func78 (by kernel_rfl) trivial
noncomputable def g78 (a:LL) (b c d:Int):Option (Bool):=F78.S.g [.l a,.i b,.i c,.i d]
noncomputable def Zpm (k:Nat) (a:LL) (b c d e:Int):Option (Bool):=F78.lp [0] 0 r0 k [.l a,.i b,.i c,.i d,.i e]
theorem Zkv (k:Nat) (a:LL) (c d e b:Int):Zpm (k+1) a c d e b =
 (if (cop .lss b (List.length a:Int)) then
 Zm a b [.int .i64,.int .i64,.int .i64] fun (f:Int×Int×Int)=>
 if ((cop .eql f.1 c)&&((cop .eql f.2.1 d)&&((cop .eql f.2.2 e)&&true))) then
 some (true)
 else
 Zpm k a c d e (iop .add .i64 b 1)
 else
 some (false)):=by kernel_rfl
theorem Zxy (a:LL) (b c d:Int):g78 a b c d =
 (Zpm ZB a b c d 0):=by kernel_rfl
noncomputable def F61:Fn:=⟨53,[2],[(4,[(1,.box hs16),(3,.c (.int .i64))])],[],0,[],[],Tryz.f61,[.agg hs16],[.c (.bool)],[(128,Zwf.S),(130,ZuP.S),(78,F78.S)]⟩
theorem ZE2:F61.S.Ok Tryz.prog 61:=F61.ok Tryz.func61 (by kernel_rfl) ⟨ZwJ,⟨Zsq,⟨ZzR,trivial⟩⟩⟩
noncomputable def g61 (a c d:Int) (e:LL) (f h j k m n:Int) (o:Bool):Option (Bool):=F61.S.g [.i a,.i c,.i d,.l e,.i f,.i h,.i j,.i k,.i m,.i n,.b o]
noncomputable def Zqq (k:Nat) (a c d:Int) (e:LL) (f g h j m n:Int) (o:Bool) (p:Int):Option (Bool):=F61.lp [0,1,0,1,1,0,1,0] 0 r0 k [.i a,.i c,.i d,.l e,.i f,.i g,.i h,.i j,.i m,.i n,.b o,.i p]
theorem ZkZ (k:Nat) (e f g:Int) (b:LL) (h i j l m n:Int) (o:Bool) (a:Int):Zqq (k+1) e f g b h i j l m n o a =
 (if (cop .lss a (List.length b:Int)) then
 Zm b a [.int .i64,.int .i64,.int .i64] fun (c:Int×Int×Int)=>
 (ZvI c.1 c.2.1 c.2.2).bind fun p=>
 if (!p) then
 some (false)
 else
 Zz ((0:Int)≤a)<|
 Zz ((a:Int)≤(List.length b:Int))<|
 Zm b a [.int .i64,.int .i64,.int .i64] fun (d:Int×Int×Int)=>
 (g78 (List.take (Int.toNat a) b) d.1 d.2.1 d.2.2).bind fun q=>
 if q then
 some (false)
 else
 Zqq k e f g b h i j l m n o (iop .add .i64 a 1)
 else
 some (true)):=by kernel_rfl
theorem Zvq (a b c:Int) (d:LL) (e f g h i j:Int) (k:Bool):g61 a b c d e f g h i j k =
 ((ZvI a b c).bind fun l=>
 if (!l) then
 some (false)
 else
 (ZvC e f g h i j k).bind fun m=>
 if (!m) then
 some (false)
 else
 if (cop .gtr (List.length d:Int) 8) then
 some (false)
 else
 (g78 d a b c).bind fun n=>
 if n then
 some (false)
 else
 Zqq ZB a b c d e f g h i j k 0):=by kernel_rfl
noncomputable def F79:Fn:=⟨18,[4],[(2,[(0,.c (.slice 1)),(1,.c (.int .i64)),(5,.c (.int .i64))])],[],0,[],[],Tryz.f79,[.c (.slice 1),.c (.int .i64)],[.c (.bool)],[]⟩
theorem ZEp:F79.S.Ok Tryz.prog 79:=F79.ok Tryz.func79 (by kernel_rfl) trivial
noncomputable def g79 (a:LL) (b:Int):Option (Bool):=F79.S.g [.l a,.i b]
noncomputable def ZiN (k:Nat) (a:LL) (b c:Int):Option (Bool):=F79.lp [0] 0 r0 k [.l a,.i b,.i c]
theorem Zj9 (k:Nat) (a:LL) (c b:Int):ZiN (k+1) a c b =
 (if (cop .lss b (List.length a:Int)) then
 Zm a b [.int .i64] fun (d:Int)=>
 if (cop .eql d c) then
 some (true)
 else
 ZiN k a c (iop .add .i64 b 1)
 else
 some (false)):=by kernel_rfl
theorem Zv7 (a:LL) (b:Int):g79 a b =
 (ZiN ZB a b 0):=by kernel_rfl
noncomputable def F81:Fn:=⟨8,[2],[],[],0,[],[],Tryz.f81,[.agg hs11],[.c (.bool)],[]⟩
theorem ZDJ:F81.S.Ok Tryz.prog 81:=F81.ok Tryz.func81 (by kernel_rfl) trivial
noncomputable def g81 (a c d:Int) (e:LL) (f h j k m n:Int) (o:Bool) (p q r s:Int):Option (Bool):=F81.S.g [.i a,.i c,.i d,.l e,.i f,.i h,.i j,.i k,.i m,.i n,.b o,.i p,.i q,.i r,.i s]
theorem ZwQ (a b c:Int) (d:LL) (e f g h i j:Int) (k:Bool) (l m n o:Int):g81 a b c d e f g h i j k l m n o =
 (some (((cop .eql a 0)&&((cop .eql b 0)&&((cop .eql c 0)&&true))))):=by kernel_rfl
noncomputable def F82:Fn:=⟨30,[4],[],[],0,[],[],Tryz.f82,[.agg [.int .i64,.int .i64,.int .i64],.agg [.int .i64,.int .i64,.int .i64]],[.c (.bool)],[]⟩
theorem ZDk:F82.S.Ok Tryz.prog 82:=F82.ok Tryz.func82 (by kernel_rfl) trivial
noncomputable def g82 (a b c d e f:Int):Option (Bool):=F82.S.g [.i a,.i b,.i c,.i d,.i e,.i f]
theorem ZwE (a b e c d f:Int):g82 a b e c d f =
 (if (cop .neq a c) then
 some ((cop .lss a c))
 else
 if (cop .neq b d) then
 some ((cop .lss b d))
 else
 some ((cop .lss e f))):=by kernel_rfl
noncomputable def F68:Fn:=⟨38,[4],[],[],0,[],[],Tryz.f68,[.agg hs6,.agg hs6],[.c (.bool)],[(127,Ztn.S)]⟩
theorem ZCI:F68.S.Ok Tryz.prog 68:=F68.ok Tryz.func68 (by kernel_rfl) ⟨Zqb,trivial⟩
noncomputable def g68 (a c d e f h j k m n o p q r s t u v w x:Int) (y:LL) (z A C D E G:Int) (H:Bool) (J K L M N O P Q R T U V W X Y Z aa ab ac ad:Int) (ae:LL) (af ag ah ai aj ak:Int) (al:Bool):Option (Bool):=F68.S.g [.i a,.i c,.i d,.i e,.i f,.i h,.i j,.i k,.i m,.i n,.i o,.i p,.i q,.i r,.i s,.i t,.i u,.i v,.i w,.i x,.l y,.i z,.i A,.i C,.i D,.i E,.i G,.b H,.i J,.i K,.i L,.i M,.i N,.i O,.i P,.i Q,.i R,.i T,.i U,.i V,.i W,.i X,.i Y,.i Z,.i aa,.i ab,.i ac,.i ad,.l ae,.i af,.i ag,.i ah,.i ai,.i aj,.i ak,.b al]
theorem ZxV (a b c d e f g h i j k l m n o p q r s t:Int) (u:LL) (v w x y z A:Int) (C:Bool) (D E G H J K L M N O P Q R T U V W X Y Z:Int) (aa:LL) (ab ac ad ae af ag:Int) (ah:Bool):g68 a b c d e f g h i j k l m n o p q r s t u v w x y z A C D E G H J K L M N O P Q R T U V W X Y Z aa ab ac ad ae af ag ah =
 (if ((cop .eql a D)&&((cop .eql b E)&&((cop .eql c G)&&true))) then
 if ((cop .eql d H)&&((cop .eql e J)&&((cop .eql f K)&&((cop .eql g L)&&((cop .eql h M)&&((cop .eql i N)&&((cop .eql j O)&&((cop .eql k P)&&((cop .eql l Q)&&((cop .eql m R)&&((cop .eql n T)&&((cop .eql o U)&&true)))))))))))) then
 if (cop .eql p V) then
 if (cop .eql q W) then
 (ZuT r s t u v w x y z A C X Y Z aa ab ac ad ae af ag ah).bind fun ai=>
 some (ai)
 else
 some (false)
 else
 some (false)
 else
 some (false)
 else
 some (false)):=by kernel_rfl
noncomputable def F70:Fn:=⟨27,[4],[(4,[(0,.c (.slice 11)),(1,.c (.slice 11)),(5,.c (.int .i64))])],[],0,[],[],Tryz.f70,[.c (.slice 11),.c (.slice 11)],[.c (.bool)],[(127,Ztn.S)]⟩
theorem ZD6:F70.S.Ok Tryz.prog 70:=F70.ok Tryz.func70 (by kernel_rfl) ⟨Zqb,trivial⟩
noncomputable def g70 (a b:LL):Option (Bool):=F70.S.g [.l a,.l b]
noncomputable def Znk (k:Nat) (a b:LL) (c:Int):Option (Bool):=F70.lp [1,0] 0 r0 k [.l a,.l b,.i c]
theorem Zko (k:Nat) (d e:LL) (c:Int):Znk (k+1) d e c =
 (if (cop .lss c (List.length d:Int)) then
 Zm d c hs16 fun (a:Qt31)=>
 Zm e c hs16 fun (b:Qt31)=>
 (ZuT a.1 a.2.1 a.2.2.1 a.2.2.2.1 a.2.2.2.2.1 a.2.2.2.2.2.1 a.2.2.2.2.2.2.1 a.2.2.2.2.2.2.2.1 a.2.2.2.2.2.2.2.2.1 a.2.2.2.2.2.2.2.2.2.1 a.2.2.2.2.2.2.2.2.2.2 b.1 b.2.1 b.2.2.1 b.2.2.2.1 b.2.2.2.2.1 b.2.2.2.2.2.1 b.2.2.2.2.2.2.1 b.2.2.2.2.2.2.2.1 b.2.2.2.2.2.2.2.2.1 b.2.2.2.2.2.2.2.2.2.1 b.2.2.2.2.2.2.2.2.2.2).bind fun f=>
 if (!f) then
 some (false)
 else
 Znk k d e (iop .add .i64 c 1)
 else
 some (true)):=by kernel_rfl
theorem ZvZ (a b:LL):g70 a b =
 (if (cop .neq (List.length a:Int) (List.length b:Int)) then
 some (false)
 else
 Znk ZB a b 0):=by kernel_rfl
noncomputable def F71:Fn:=⟨26,[4],[(4,[(0,.c (.slice 1)),(1,.c (.slice 1)),(5,.c (.int .i64))])],[],0,[],[],Tryz.f71,[.c (.slice 1),.c (.slice 1)],[.c (.bool)],[]⟩
theorem ZCO:F71.S.Ok Tryz.prog 71:=F71.ok Tryz.func71 (by kernel_rfl) trivial
noncomputable def g71 (a b:LL):Option (Bool):=F71.S.g [.l a,.l b]
noncomputable def Zm1 (k:Nat) (a b:LL) (c:Int):Option (Bool):=F71.lp [1,0] 0 r0 k [.l a,.l b,.i c]
theorem Zkg (k:Nat) (b c:LL) (a:Int):Zm1 (k+1) b c a =
 (if (cop .lss a (List.length b:Int)) then
 Zm b a [.int .i64] fun (d:Int)=>
 Zm c a [.int .i64] fun (e:Int)=>
 if (cop .neq d e) then
 some (false)
 else
 Zm1 k b c (iop .add .i64 a 1)
 else
 some (true)):=by kernel_rfl
theorem ZxX (a b:LL):g71 a b =
 (if (cop .neq (List.length a:Int) (List.length b:Int)) then
 some (false)
 else
 Zm1 ZB a b 0):=by kernel_rfl
noncomputable def F72:Fn:=⟨26,[4],[(4,[(0,.c (.slice 2)),(1,.c (.slice 2)),(5,.c (.int .i64))])],[],0,[],[],Tryz.f72,[.c (.slice 2),.c (.slice 2)],[.c (.bool)],[]⟩
theorem ZDP:F72.S.Ok Tryz.prog 72:=F72.ok Tryz.func72 (by kernel_rfl) trivial
noncomputable def g72 (a b:LL):Option (Bool):=F72.S.g [.l a,.l b]
noncomputable def ZoB (k:Nat) (a b:LL) (c:Int):Option (Bool):=F72.lp [1,0] 0 r0 k [.l a,.l b,.i c]
theorem Zkx (k:Nat) (b c:LL) (a:Int):ZoB (k+1) b c a =
 (if (cop .lss a (List.length b:Int)) then
 Zm b a [.int .i64,.int .i64] fun (d:Int×Int)=>
 Zm c a [.int .i64,.int .i64] fun (e:Int×Int)=>
 if (!((cop .eql d.1 e.1)&&((cop .eql d.2 e.2)&&true))) then
 some (false)
 else
 ZoB k b c (iop .add .i64 a 1)
 else
 some (true)):=by kernel_rfl
theorem ZxI (a b:LL):g72 a b =
 (if (cop .neq (List.length a:Int) (List.length b:Int)) then
 some (false)
 else
 ZoB ZB a b 0):=by kernel_rfl
noncomputable def F73:Fn:=⟨24,[4],[],[],0,[],[],Tryz.f73,[.agg [.int .i64,.slice 1,.slice 1],.agg [.int .i64,.slice 1,.slice 1]],[.c (.bool)],[(71,F71.S)]⟩
theorem ZCK:F73.S.Ok Tryz.prog 73:=F73.ok Tryz.func73 (by kernel_rfl) ⟨ZCO,trivial⟩
noncomputable def g73 (a:Int) (b c:LL) (d:Int) (e f:LL):Option (Bool):=F73.S.g [.i a,.l b,.l c,.i d,.l e,.l f]
theorem Zvb (a:Int) (b c:LL) (d:Int) (e f:LL):g73 a b c d e f =
 (if (cop .eql a d) then
 (g71 b e).bind fun g=>
 if g then
 (g71 c f).bind fun h=>
 some (h)
 else
 some (false)
 else
 some (false)):=by kernel_rfl
noncomputable def Zvp:Fn:=⟨55,[4],[(4,[(0,.c (.slice 15)),(1,.c (.slice 15)),(5,.c (.int .i64))])],[],0,[],[],Tryz.f151,[.c (.slice 15),.c (.slice 15)],[.c (.bool)],[(127,Ztn.S)]⟩
theorem ZAq:Zvp.S.Ok Tryz.prog 151:=Zvp.ok Tryz.func151 (by kernel_rfl) ⟨Zqb,trivial⟩
noncomputable def ZBH (a b:LL):Option (Bool):=Zvp.S.g [.l a,.l b]
noncomputable def Zin (k:Nat) (a b:LL) (c:Int):Option (Bool):=Zvp.lp [1,0] 0 r0 k [.l a,.l b,.i c]
theorem ZgV (k:Nat) (d e:LL) (c:Int):Zin (k+1) d e c =
 (if (cop .lss c (List.length d:Int)) then
 Zm d c hs11 fun (h:Qt21)=>
 Zm e c hs11 fun (i:Qt21)=>
 if (cop .neq h.2.2.2.2.2.2.2.2.2.2.2.1 i.2.2.2.2.2.2.2.2.2.2.2.1) then
 some (false)
 else
 Zm d c hs11 fun (f:Qt21)=>
 Zm e c hs11 fun (g:Qt21)=>
 if (!((cop .eql (d4 (d8 f)).1 (d4 (d8 g)).1)&&((cop .eql (d4 (d8 f)).2.1 (d4 (d8 g)).2.1)&&((cop .eql (d2 (d4 (d8 f))) (d2 (d4 (d8 g))))&&true)))) then
 some (false)
 else
 Zm d c hs11 fun (a:Qt21)=>
 Zm e c hs11 fun (b:Qt21)=>
 (ZuT a.1 a.2.1 a.2.2.1 a.2.2.2.1 a.2.2.2.2.1 a.2.2.2.2.2.1 a.2.2.2.2.2.2.1 a.2.2.2.2.2.2.2.1 a.2.2.2.2.2.2.2.2.1 a.2.2.2.2.2.2.2.2.2.1 a.2.2.2.2.2.2.2.2.2.2.1 b.1 b.2.1 b.2.2.1 b.2.2.2.1 b.2.2.2.2.1 b.2.2.2.2.2.1 b.2.2.2.2.2.2.1 b.2.2.2.2.2.2.2.1 b.2.2.2.2.2.2.2.2.1 b.2.2.2.2.2.2.2.2.2.1 b.2.2.2.2.2.2.2.2.2.2.1).bind fun j=>
 if (!j) then
 some (false)
 else
 Zin k d e (iop .add .i64 c 1)
 else
 some (true)):=by kernel_rfl
theorem Ztz (a b:LL):ZBH a b =
 (if (cop .neq (List.length a:Int) (List.length b:Int)) then
 some (false)
 else
 Zin ZB a b 0):=by kernel_rfl
noncomputable def ZvF:Fn:=⟨27,[4],[(4,[(0,.c (.slice 28)),(1,.c (.slice 28)),(5,.c (.int .i64))])],[],0,[],[],Tryz.f152,[.c (.slice 28),.c (.slice 28)],[.c (.bool)],[(68,F68.S)]⟩
theorem ZCv:ZvF.S.Ok Tryz.prog 152:=ZvF.ok Tryz.func152 (by kernel_rfl) ⟨ZCI,trivial⟩
noncomputable def ZCj (a b:LL):Option (Bool):=ZvF.S.g [.l a,.l b]
noncomputable def ZgL (k:Nat) (a b:LL) (c:Int):Option (Bool):=ZvF.lp [1,0] 0 r0 k [.l a,.l b,.i c]
theorem ZhT (k:Nat) (d e:LL) (c:Int):ZgL (k+1) d e c =
 (if (cop .lss c (List.length d:Int)) then
 Zm d c hs6 fun (a:Qt10)=>
 Zm e c hs6 fun (b:Qt10)=>
 (g68 a.1 a.2.1 a.2.2.1 a.2.2.2.1 a.2.2.2.2.1 a.2.2.2.2.2.1 a.2.2.2.2.2.2.1 a.2.2.2.2.2.2.2.1 a.2.2.2.2.2.2.2.2.1 a.2.2.2.2.2.2.2.2.2.1 a.2.2.2.2.2.2.2.2.2.2.1 a.2.2.2.2.2.2.2.2.2.2.2.1 (d4 (d8 a)).1 (d4 (d8 a)).2.1 (d2 (d4 (d8 a))).1 (d2 (d4 (d8 a))).2.1 (d16 a).1 (d16 a).2.1 (d2 (d16 a)).1 (d2 (d16 a)).2.1 (d4 (d16 a)).1 (d4 (d16 a)).2.1 (d2 (d4 (d16 a))).1 (d2 (d4 (d16 a))).2.1 (d8 (d16 a)).1 (d8 (d16 a)).2.1 (d2 (d8 (d16 a))).1 (d2 (d8 (d16 a))).2 b.1 b.2.1 b.2.2.1 b.2.2.2.1 b.2.2.2.2.1 b.2.2.2.2.2.1 b.2.2.2.2.2.2.1 b.2.2.2.2.2.2.2.1 b.2.2.2.2.2.2.2.2.1 b.2.2.2.2.2.2.2.2.2.1 b.2.2.2.2.2.2.2.2.2.2.1 b.2.2.2.2.2.2.2.2.2.2.2.1 (d4 (d8 b)).1 (d4 (d8 b)).2.1 (d2 (d4 (d8 b))).1 (d2 (d4 (d8 b))).2.1 (d16 b).1 (d16 b).2.1 (d2 (d16 b)).1 (d2 (d16 b)).2.1 (d4 (d16 b)).1 (d4 (d16 b)).2.1 (d2 (d4 (d16 b))).1 (d2 (d4 (d16 b))).2.1 (d8 (d16 b)).1 (d8 (d16 b)).2.1 (d2 (d8 (d16 b))).1 (d2 (d8 (d16 b))).2).bind fun f=>
 if (!f) then
 some (false)
 else
 ZgL k d e (iop .add .i64 c 1)
 else
 some (true)):=by kernel_rfl
theorem ZrZ (a b:LL):ZCj a b =
 (if (cop .neq (List.length a:Int) (List.length b:Int)) then
 some (false)
 else
 ZgL ZB a b 0):=by kernel_rfl
noncomputable def Zwe:Fn:=⟨26,[4],[(4,[(0,.c (.slice 4)),(1,.c (.slice 4)),(5,.c (.int .i64))])],[],0,[],[],Tryz.f153,[.c (.slice 4),.c (.slice 4)],[.c (.bool)],[]⟩
theorem ZCF:Zwe.S.Ok Tryz.prog 153:=Zwe.ok Tryz.func153 (by kernel_rfl) trivial
noncomputable def ZBt (a b:LL):Option (Bool):=Zwe.S.g [.l a,.l b]
noncomputable def ZgO (k:Nat) (a b:LL) (c:Int):Option (Bool):=Zwe.lp [1,0] 0 r0 k [.l a,.l b,.i c]
theorem Zhn (k:Nat) (b e:LL) (a:Int):ZgO (k+1) b e a =
 (if (cop .lss a (List.length b:Int)) then
 Zm b a [.int .i64,.int .i64,.int .i64,.int .i64] fun (c:Int×Int×Int×Int)=>
 Zm e a [.int .i64,.int .i64,.int .i64,.int .i64] fun (d:Int×Int×Int×Int)=>
 if (!((cop .eql c.1 d.1)&&((cop .eql c.2.1 d.2.1)&&((cop .eql c.2.2.1 d.2.2.1)&&((cop .eql c.2.2.2 d.2.2.2)&&true))))) then
 some (false)
 else
 ZgO k b e (iop .add .i64 a 1)
 else
 some (true)):=by kernel_rfl
theorem ZrO (a b:LL):ZBt a b =
 (if (cop .neq (List.length a:Int) (List.length b:Int)) then
 some (false)
 else
 ZgO ZB a b 0):=by kernel_rfl
noncomputable def ZvS:Fn:=⟨26,[4],[(4,[(0,.c (.slice 2)),(1,.c (.slice 2)),(5,.c (.int .i64))])],[],0,[],[],Tryz.f154,[.c (.slice 2),.c (.slice 2)],[.c (.bool)],[]⟩
theorem ZAT:ZvS.S.Ok Tryz.prog 154:=ZvS.ok Tryz.func154 (by kernel_rfl) trivial
noncomputable def ZAM (a b:LL):Option (Bool):=ZvS.S.g [.l a,.l b]
noncomputable def ZhK (k:Nat) (a b:LL) (c:Int):Option (Bool):=ZvS.lp [1,0] 0 r0 k [.l a,.l b,.i c]
theorem ZgT (k:Nat) (b c:LL) (a:Int):ZhK (k+1) b c a =
 (if (cop .lss a (List.length b:Int)) then
 Zm b a [.int .i64,.int .i64] fun (d:Int×Int)=>
 Zm c a [.int .i64,.int .i64] fun (e:Int×Int)=>
 if (!((cop .eql d.1 e.1)&&((cop .eql d.2 e.2)&&true))) then
 some (false)
 else
 ZhK k b c (iop .add .i64 a 1)
 else
 some (true)):=by kernel_rfl
theorem Zuc (a b:LL):ZAM a b =
 (if (cop .neq (List.length a:Int) (List.length b:Int)) then
 some (false)
 else
 ZhK ZB a b 0):=by kernel_rfl
noncomputable def Zwd:Fn:=⟨55,[4],[(4,[(0,.c (.slice 13)),(1,.c (.slice 13)),(5,.c (.int .i64))])],[],0,[],[],Tryz.f155,[.c (.slice 13),.c (.slice 13)],[.c (.bool)],[(127,Ztn.S)]⟩
theorem ZBP:Zwd.S.Ok Tryz.prog 155:=Zwd.ok Tryz.func155 (by kernel_rfl) ⟨Zqb,trivial⟩
noncomputable def Zz6 (a b:LL):Option (Bool):=Zwd.S.g [.l a,.l b]
noncomputable def ZgN (k:Nat) (a b:LL) (c:Int):Option (Bool):=Zwd.lp [1,0] 0 r0 k [.l a,.l b,.i c]
theorem Zhd (k:Nat) (d e:LL) (c:Int):ZgN (k+1) d e c =
 (if (cop .lss c (List.length d:Int)) then
 Zm d c hs12 fun (f:Qt25)=>
 Zm e c hs12 fun (g:Qt25)=>
 if (cop .neq f.1 g.1) then
 some (false)
 else
 Zm d c hs12 fun (h:Qt25)=>
 Zm e c hs12 fun (i:Qt25)=>
 if (cop .neq h.2.1 i.2.1) then
 some (false)
 else
 Zm d c hs12 fun (a:Qt25)=>
 Zm e c hs12 fun (b:Qt25)=>
 (ZuT a.2.2.1 a.2.2.2.1 a.2.2.2.2.1 a.2.2.2.2.2.1 a.2.2.2.2.2.2.1 a.2.2.2.2.2.2.2.1 a.2.2.2.2.2.2.2.2.1 a.2.2.2.2.2.2.2.2.2.1 a.2.2.2.2.2.2.2.2.2.2.1 a.2.2.2.2.2.2.2.2.2.2.2.1 (d4 (d8 a)) b.2.2.1 b.2.2.2.1 b.2.2.2.2.1 b.2.2.2.2.2.1 b.2.2.2.2.2.2.1 b.2.2.2.2.2.2.2.1 b.2.2.2.2.2.2.2.2.1 b.2.2.2.2.2.2.2.2.2.1 b.2.2.2.2.2.2.2.2.2.2.1 b.2.2.2.2.2.2.2.2.2.2.2.1 (d4 (d8 b))).bind fun j=>
 if (!j) then
 some (false)
 else
 ZgN k d e (iop .add .i64 c 1)
 else
 some (true)):=by kernel_rfl
theorem Ztl (a b:LL):Zz6 a b =
 (if (cop .neq (List.length a:Int) (List.length b:Int)) then
 some (false)
 else
 ZgN ZB a b 0):=by kernel_rfl
noncomputable def F74:Fn:=⟨45,[4],[],[],0,[],[],Tryz.f74,[.agg hs30,.agg hs30],[.c (.bool)],[(151,Zvp.S),(152,ZvF.S),(153,Zwe.S),(154,ZvS.S),(155,Zwd.S),(69,F69.S)]⟩
theorem ZCN:F74.S.Ok Tryz.prog 74:=F74.ok Tryz.func74 (by kernel_rfl) ⟨ZAq,⟨ZCv,⟨ZCF,⟨ZAT,⟨ZBP,⟨ZCg,trivial⟩⟩⟩⟩⟩⟩
noncomputable def g74 (a b c d e f h i j k m n:LL):Option (Bool):=F74.S.g [.l a,.l b,.l c,.l d,.l e,.l f,.l h,.l i,.l j,.l k,.l m,.l n]
theorem ZvY (a b c d e f g h i j k l:LL):g74 a b c d e f g h i j k l =
 ((ZBH a g).bind fun m=>
 if m then
 (ZCj b h).bind fun n=>
 if n then
 (ZBt c i).bind fun o=>
 if o then
 (ZAM d j).bind fun p=>
 if p then
 (Zz6 e k).bind fun q=>
 if q then
 (g69 f l).bind fun r=>
 some (r)
 else
 some (false)
 else
 some (false)
 else
 some (false)
 else
 some (false)
 else
 some (false)):=by kernel_rfl
noncomputable def F75:Fn:=⟨45,[4],[],[],0,[],[],Tryz.f75,[.agg hs7,.agg hs7],[.c (.bool)],[(73,F73.S),(74,F74.S)]⟩
theorem ZET:F75.S.Ok Tryz.prog 75:=F75.ok Tryz.func75 (by kernel_rfl) ⟨ZCK,⟨ZCN,trivial⟩⟩
noncomputable def g75 (a c:Int) (d e f h j k m n:LL) (o:Bool) (p:Int) (q r s t u v w x:LL) (y z:Int) (A C D E G H J K:LL) (L:Bool) (M:Int) (N O P Q R T U V:LL):Option (Bool):=F75.S.g [.i a,.i c,.l d,.l e,.l f,.l h,.l j,.l k,.l m,.l n,.b o,.i p,.l q,.l r,.l s,.l t,.l u,.l v,.l w,.l x,.i y,.i z,.l A,.l C,.l D,.l E,.l G,.l H,.l J,.l K,.b L,.i M,.l N,.l O,.l P,.l Q,.l R,.l T,.l U,.l V]
theorem Zwu (a b:Int) (c d e f g h i j:LL) (k:Bool) (l:Int) (m n o p q r s t:LL) (u v:Int) (w x y z A C D E:LL) (G:Bool) (H:Int) (J K L M N O P Q:LL):g75 a b c d e f g h i j k l m n o p q r s t u v w x y z A C D E G H J K L M N O P Q =
 (if (cop .eql a u) then
 (g73 b c d v w x).bind fun R=>
 if R then
 (g74 e f g h i j y z A C D E).bind fun T=>
 if T then
 if (k == G) then
 (g73 l m n H J K).bind fun U=>
 if U then
 (g74 o p q r s t L M N O P Q).bind fun V=>
 some (V)
 else
 some (false)
 else
 some (false)
 else
 some (false)
 else
 some (false)
 else
 some (false)):=by kernel_rfl
noncomputable def F19:Fn:=⟨134,[4],[],[],0,[],[],Tryz.f19,[.agg hs0,.agg hs0],[.c (.bool)],[(68,F68.S),(69,F69.S),(70,F70.S),(71,F71.S),(72,F72.S),(73,F73.S),(74,F74.S),(75,F75.S)]⟩
theorem ZDm:F19.S.Ok Tryz.prog 19:=F19.ok Tryz.func19 (by kernel_rfl) ⟨ZCI,⟨ZCg,⟨ZD6,⟨ZCO,⟨ZDP,⟨ZCK,⟨ZCN,⟨ZET,trivial⟩⟩⟩⟩⟩⟩⟩⟩
noncomputable def g19 (a c d e f h j k m n o:Int) (p:Bool) (q r s t u v w x y z A C D E G H J K L M:Int) (N:LL) (O P Q R T U:Int) (V:Bool) (W X Y Z:LL) (aa ab:Int) (ac ad ae af ag ah ai aj:LL) (ak al:Int) (am an ao ap aq ar aZ au:LL) (av:Bool) (aw:Int) (ax ay az a0 a1 a2 a3 a4:LL) (a5 a6 a7 a8 a9 ba bb bc bd be bf:Int) (bg:Bool) (bh bi bj bk bl bm bn bo bp bq br bs bt bu bv bw bx bz b0 b1:Int) (b2:LL) (b3 b4 b5 b6 b7 b8:Int) (b9:Bool) (ca cb cc cd:LL) (ce cf:Int) (cg ch ci cj ck cl cm cn:LL) (co cp:Int) (cq cr cs ct cu cv cw cx:LL) (cy:Bool) (cz:Int) (c0 c1 c2 c3 c4 c5 c6 c7:LL):Option (Bool):=F19.S.g [.i a,.i c,.i d,.i e,.i f,.i h,.i j,.i k,.i m,.i n,.i o,.b p,.i q,.i r,.i s,.i t,.i u,.i v,.i w,.i x,.i y,.i z,.i A,.i C,.i D,.i E,.i G,.i H,.i J,.i K,.i L,.i M,.l N,.i O,.i P,.i Q,.i R,.i T,.i U,.b V,.l W,.l X,.l Y,.l Z,.i aa,.i ab,.l ac,.l ad,.l ae,.l af,.l ag,.l ah,.l ai,.l aj,.i ak,.i al,.l am,.l an,.l ao,.l ap,.l aq,.l ar,.l aZ,.l au,.b av,.i aw,.l ax,.l ay,.l az,.l a0,.l a1,.l a2,.l a3,.l a4,.i a5,.i a6,.i a7,.i a8,.i a9,.i ba,.i bb,.i bc,.i bd,.i be,.i bf,.b bg,.i bh,.i bi,.i bj,.i bk,.i bl,.i bm,.i bn,.i bo,.i bp,.i bq,.i br,.i bs,.i bt,.i bu,.i bv,.i bw,.i bx,.i bz,.i b0,.i b1,.l b2,.i b3,.i b4,.i b5,.i b6,.i b7,.i b8,.b b9,.l ca,.l cb,.l cc,.l cd,.i ce,.i cf,.l cg,.l ch,.l ci,.l cj,.l ck,.l cl,.l cm,.l cn,.i co,.i cp,.l cq,.l cr,.l cs,.l ct,.l cu,.l cv,.l cw,.l cx,.b cy,.i cz,.l c0,.l c1,.l c2,.l c3,.l c4,.l c5,.l c6,.l c7]
theorem Zyi (a b c d e f g h i j k:Int) (l:Bool) (m n o p q r s t u v w x y z A C D E G H:Int) (J:LL) (K L M O P Q:Int) (R:Bool) (T U V W:LL) (X Y:Int) (Z aa ab ac ad ae af ag:LL) (ah ai:Int) (aj ak al am an ao ap aq:LL) (ar:Bool) (aZ:Int) (au av aw ax ay az a0 a1:LL) (a2 a3 a4 a5 a6 a7 a8 a9 ba bb bc:Int) (bd:Bool) (be bf bg bh bi bj bk bl bm bn bo bp bq br bs bt bu bv bw bx:Int) (bz:LL) (b0 b1 b2 b3 b4 b5:Int) (b6:Bool) (b7 b8 b9 ca:LL) (cb cc:Int) (cd ce cf cg ch ci cj ck:LL) (cl cm:Int) (cn co cp cq cr cs ct cu:LL) (cv:Bool) (cw:Int) (cx cy cz c0 c1 c2 c3 c4:LL):g19 a b c d e f g h i j k l m n o p q r s t u v w x y z A C D E G H J K L M O P Q R T U V W X Y Z aa ab ac ad ae af ag ah ai aj ak al am an ao ap aq ar aZ au av aw ax ay az a0 a1 a2 a3 a4 a5 a6 a7 a8 a9 ba bb bc bd be bf bg bh bi bj bk bl bm bn bo bp bq br bs bt bu bv bw bx bz b0 b1 b2 b3 b4 b5 b6 b7 b8 b9 ca cb cc cd ce cf cg ch ci cj ck cl cm cn co cp cq cr cs ct cu cv cw cx cy cz c0 c1 c2 c3 c4 =
 (if (cop .neq a a2) then
 some (false)
 else
 if (cop .neq b a3) then
 some (false)
 else
 if (cop .neq c a4) then
 some (false)
 else
 if (cop .neq d a5) then
 some (false)
 else
 if (cop .neq e a6) then
 some (false)
 else
 if (cop .neq f a7) then
 some (false)
 else
 if (cop .neq g a8) then
 some (false)
 else
 if (!((cop .eql h a9)&&((cop .eql i ba)&&((cop .eql j bb)&&true)))) then
 some (false)
 else
 if (cop .neq k bc) then
 some (false)
 else
 if (!(l == bd)) then
 some (false)
 else
 if (cop .neq X cb) then
 some (false)
 else
 (g68 m n o p q r s t u v w x y z A C D E G H J K L M O P Q R be bf bg bh bi bj bk bl bm bn bo bp bq br bs bt bu bv bw bx bz b0 b1 b2 b3 b4 b5 b6).bind fun c5=>
 if c5 then
 (g69 T b7).bind fun c6=>
 if c6 then
 (g70 U b8).bind fun c7=>
 if c7 then
 (g71 V b9).bind fun c8=>
 if c8 then
 (g72 W ca).bind fun c9=>
 if c9 then
 (g73 Y Z aa cc cd ce).bind fun da=>
 if da then
 (g74 ab ac ad ae af ag cf cg ch ci cj ck).bind fun db=>
 if db then
 (g75 ah ai aj ak al am an ao ap aq ar aZ au av aw ax ay az a0 a1 cl cm cn co cp cq cr cs ct cu cv cw cx cy cz c0 c1 c2 c3 c4).bind fun dc=>
 some (dc)
 else
 some (false)
 else
 some (false)
 else
 some (false)
 else
 some (false)
 else
 some (false)
 else
 some (false)
 else
 some (false)):=by kernel_rfl
end Go.Proofs.YtjldbnbdcmfbmaaGreat
