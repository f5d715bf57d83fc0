/- Functions of the program, as what they compute. -/
import Derived.Test.YtjldbnbdcmfbmaaGreatGW8
namespace Go.Proofs.YtjldbnbdcmfbmaaGreat
open Go Go.AM
set_option linter.unusedVariables false
set_option maxRecDepth 100000
noncomputable def F32:Fn:=⟨44,[2,3],[],[],0,[],[],Tryz.f32,[.c (.int .i64)],[.c (.own false 89),.c (.bool)],[]⟩
theorem ZAI:F32.S.Ok Tryz.prog 32:=F32.ok Tryz.func32 (by kernel_rfl) trivial
noncomputable def g32 (a:Int):Option (LL×Bool):=F32.S.g [.i a]
theorem Y2 (a:Int):g32 a =
 (if (cop .eql a 1) then
 some (((E0++[[AV.val (.int .i64 0)]])++[[AV.val (.int .i64 1)]]),true)
 else
 if (cop .eql a 2) then
 some ((((((E0++[[AV.val (.int .i64 0)]])++[[AV.val (.int .i64 2)]])++[[AV.val (.int .i64 3)]])++[[AV.val (.int .i64 4)]])++[[AV.val (.int .i64 5)]]),true)
 else
 if (cop .eql a 3) then
 some (((E0++[[AV.val (.int .i64 0)]])++[[AV.val (.int .i64 2)]]),true)
 else
 if (cop .eql a 7) then
 some (((E0++[[AV.val (.int .i64 0)]])++[[AV.val (.int .i64 2)]]),true)
 else
 if (cop .eql a 8) then
 some (((E0++[[AV.val (.int .i64 0)]])++[[AV.val (.int .i64 2)]]),true)
 else
 if (cop .eql a 9) then
 some (((E0++[[AV.val (.int .i64 0)]])++[[AV.val (.int .i64 2)]]),true)
 else
 if (cop .eql a 10) then
 some (((E0++[[AV.val (.int .i64 0)]])++[[AV.val (.int .i64 2)]]),true)
 else
 if (cop .eql a 11) then
 some (((E0++[[AV.val (.int .i64 0)]])++[[AV.val (.int .i64 2)]]),true)
 else
 if (cop .eql a 4) then
 some (((((E0++[[AV.val (.int .i64 0)]])++[[AV.val (.int .i64 2)]])++[[AV.val (.int .i64 6)]])++[[AV.val (.int .i64 5)]]),true)
 else
 if (cop .eql a 5) then
 some ((((E0++[[AV.val (.int .i64 0)]])++[[AV.val (.int .i64 2)]])++[[AV.val (.int .i64 3)]]),true)
 else
 if (cop .eql a 6) then
 some ((((E0++[[AV.val (.int .i64 0)]])++[[AV.val (.int .i64 2)]])++[[AV.val (.int .i64 7)]]),true)
 else
 if (cop .eql a 12) then
 some (((E0++[[AV.val (.int .i64 8)]])++[[AV.val (.int .i64 9)]]),true)
 else
 if (cop .eql a 13) then
 some (((E0++[[AV.val (.int .i64 8)]])++[[AV.val (.int .i64 10)]]),true)
 else
 if (cop .eql a 14) then
 some ((((((E0++[[AV.val (.int .i64 8)]])++[[AV.val (.int .i64 11)]])++[[AV.val (.int .i64 9)]])++[[AV.val (.int .i64 12)]])++[[AV.val (.int .i64 13)]]),true)
 else
 if (cop .eql a 15) then
 some ((E0++[[AV.val (.int .i64 8)]]),true)
 else
 if (cop .eql a 16) then
 some ((E0++[[AV.val (.int .i64 8)]]),true)
 else
 if (cop .eql a 17) then
 some (((E0++[[AV.val (.int .i64 9)]])++[[AV.val (.int .i64 14)]]),true)
 else
 some (E0,false)):=by kernel_rfl
noncomputable def F33:Fn:=⟨9,[2],[],[],0,[],[],Tryz.f33,[.c (.int .i64)],[.c (.bool)],[]⟩
theorem Zzw:F33.S.Ok Tryz.prog 33:=F33.ok Tryz.func33 (by kernel_rfl) trivial
noncomputable def g33 (a:Int):Option (Bool):=F33.S.g [.i a]
theorem Zw8 (a:Int):g33 a =
 (if (cop .geq a 0) then
 some ((cop .leq a 1073741824))
 else
 some (false)):=by kernel_rfl
noncomputable def F34:Fn:=⟨9,[2],[],[],0,[],[],Tryz.f34,[.c (.int .i64)],[.c (.bool)],[]⟩
theorem ZsE:F34.S.Ok Tryz.prog 34:=F34.ok Tryz.func34 (by kernel_rfl) trivial
noncomputable def g34 (a:Int):Option (Bool):=F34.S.g [.i a]
theorem ZwZ (a:Int):g34 a =
 (if (cop .geq a 0) then
 some ((cop .lss a 32))
 else
 some (false)):=by kernel_rfl
noncomputable def F89:Fn:=⟨9,[2],[],[],0,[],[],Tryz.f89,[.c (.int .i64)],[.c (.bool)],[]⟩
theorem ZyY:F89.S.Ok Tryz.prog 89:=F89.ok Tryz.func89 (by kernel_rfl) trivial
noncomputable def g89 (a:Int):Option (Bool):=F89.S.g [.i a]
theorem ZuT (a:Int):g89 a =
 (if (cop .geq a 0) then
 some ((cop .lss a 16))
 else
 some (false)):=by kernel_rfl
noncomputable def F99:Fn:=⟨31,[2],[],[],0,[],[],Tryz.f99,[.agg [.int .i64,.int .i64,.int .i64]],[.c (.bool)],[]⟩
theorem ZyR:F99.S.Ok Tryz.prog 99:=F99.ok Tryz.func99 (by kernel_rfl) trivial
noncomputable def g99 (a b c:Int):Option (Bool):=F99.S.g [.i a,.i b,.i c]
theorem ZwP (a b c:Int):g99 a b c =
 (if (cop .geq a 0) then
 if (cop .lss a 32) then
 if (cop .geq b 1) then
 if (cop .leq b 1073741824) then
 if (cop .geq c 0) then
 some ((cop .lss c 8))
 else
 some (false)
 else
 some (false)
 else
 some (false)
 else
 some (false)
 else
 some (false)):=by kernel_rfl
noncomputable def F91:Fn:=⟨10,[2],[],[],0,[],[],Tryz.f91,[.agg [.int .i64,.int .i64,.int .i64]],[.c (.bool)],[(99,F99.S)]⟩
theorem Zyz:F91.S.Ok Tryz.prog 91:=F91.ok Tryz.func91 (by kernel_rfl) ⟨ZyR,trivial⟩
noncomputable def g91 (a b c:Int):Option (Bool):=F91.S.g [.i a,.i b,.i c]
theorem Zxi (b c a:Int):g91 b c a =
 ((g99 b c a).bind fun d=>
 if d then
 some ((cop .eql a 0))
 else
 some (false)):=by kernel_rfl
noncomputable def Zws:Fn:=⟨26,[4],[(4,[(0,.c (.slice 3)),(1,.c (.slice 3)),(12,.c (.int .i64)),(13,.c (.int .i64))])],[],0,[],[],Tryz.f196,[.c (.slice 3),.c (.slice 3)],[.c (.bool)],[]⟩
theorem ZCy:Zws.S.Ok Tryz.prog 196:=Zws.ok Tryz.func196 (by kernel_rfl) trivial
noncomputable def ZAs (a b:LL):Option (Bool):=Zws.S.g [.l a,.l b]
noncomputable def ZcR (k:Nat) (a b:LL) (c d:Int):Option (Bool):=Zws.lp [1,0] 0 r0 k [.l a,.l b,.i c,.i d]
theorem Zgw (k:Nat) (b c:LL) (d a:Int):ZcR (k+1) b c d a =
 (if (cop .lss a d) then
 Zm b a [.int .i64,.int .i64,.int .i64] fun (e:Int×Int×Int)=>
 Zm c a [.int .i64,.int .i64,.int .i64] fun (f:Int×Int×Int)=>
 if (!((cop .eql e.1 f.1)&&((cop .eql e.2.1 f.2.1)&&((cop .eql e.2.2 f.2.2)&&true)))) then
 some (false)
 else
 ZcR k b c d (iop .add .i64 a 1)
 else
 some (true)):=by kernel_rfl
theorem ZtZ (a b:LL):ZAs a b =
 (if (cop .neq (List.length a:Int) (List.length b:Int)) then
 some (false)
 else
 ZcR Zr a b (List.length a:Int) 0):=by kernel_rfl
noncomputable def Zup:Fn:=⟨24,[4],[],[],0,[],[],Tryz.f164,[.agg hs16,.agg hs16],[.c (.bool)],[(196,Zws.S)]⟩
theorem Zsf:Zup.S.Ok Tryz.prog 164:=Zup.ok Tryz.func164 (by kernel_rfl) ⟨ZCy,trivial⟩
noncomputable def ZtW (a c d:Int) (e:LL) (f h j k m n:Int) (o:Bool) (p q r:Int) (s:LL) (t u v w x y:Int) (z:Bool):Option (Bool):=Zup.S.g [.i a,.i c,.i d,.l e,.i f,.i h,.i j,.i k,.i m,.i n,.b o,.i p,.i q,.i r,.l s,.i t,.i u,.i v,.i w,.i x,.i y,.b z]
theorem Ztw (a b c:Int) (d:LL) (e f g h i j:Int) (k:Bool) (l m n:Int) (o:LL) (p q r s t u:Int) (v:Bool):ZtW a b c d e f g h i j k l m n o p q r s t u v =
 (if ((cop .eql a l)&&((cop .eql b m)&&((cop .eql c n)&&true))) then
 if ((cop .eql e p)&&((cop .eql f q)&&((cop .eql g r)&&((cop .eql h s)&&((cop .eql i t)&&((cop .eql j u)&&((k == v)&&true))))))) then
 (ZAs d o).bind fun w=>
 some (w)
 else
 some (false)
 else
 some (false)):=by kernel_rfl
noncomputable def ZyP:Fn:=⟨38,[4],[],[],0,[],[],Tryz.f197,[.c (.int .i64),.c (.int .i64)],[.c (.bool)],[]⟩
theorem Zzz:ZyP.S.Ok Tryz.prog 197:=ZyP.ok Tryz.func197 (by kernel_rfl) trivial
noncomputable def ZCe (a b:Int):Option (Bool):=ZyP.S.g [.i a,.i b]
theorem Zsx (b a:Int):ZCe b a =
 (if (cop .eql b 1) then
 if (cop .geq a 6) then
 some ((cop .leq a 40))
 else
 some (false)
 else
 if (cop .eql b 2) then
 if (cop .geq a 12) then
 some ((cop .leq a 40))
 else
 some (false)
 else
 if (cop .eql b 3) then
 some ((cop .eql a 12))
 else
 if (cop .eql b 4) then
 some ((cop .eql a 6))
 else
 if (cop .eql b 5) then
 some ((cop .eql a 10))
 else
 if (cop .eql b 6) then
 some ((cop .eql a 16))
 else
 some (false)):=by kernel_rfl
noncomputable def Zzj:Fn:=⟨8,[2],[],[],0,[],[],Tryz.f199,[.agg hs27],[.agg [.int .i64,.int .i64]],[]⟩
theorem Zz4:Zzj.S.Ok Tryz.prog 199:=Zzj.ok Tryz.func199 (by kernel_rfl) trivial
noncomputable def ZBL (a c d e f h:Int) (j:Bool):Option (Int×Int):=Zzj.S.g [.i a,.i c,.i d,.i e,.i f,.i h,.b j]
theorem ZsZ (c a b d e f:Int) (g:Bool):ZBL c a b d e f g =
 (some (a,b)):=by kernel_rfl
noncomputable def Zzd:Fn:=⟨32,[2],[],[],0,[],[],Tryz.f198,[.agg [.int .i64,.int .i64]],[.c (.bool)],[]⟩
theorem ZB5:Zzd.S.Ok Tryz.prog 198:=Zzd.ok Tryz.func198 (by kernel_rfl) trivial
noncomputable def ZCF (a b:Int):Option (Bool):=Zzd.S.g [.i a,.i b]
theorem Zr0 (b a:Int):ZCF b a =
 (if (cop .lss a 6) then
 some (false)
 else
 if (cop .gtr a 40) then
 some (false)
 else
 if (cop .lss b 0) then
 some (false)
 else
 ZE ((0:Int)≤a)<|
 ZE (((iop .shl .i64 1 a):Int)≠0)<|
 if (cop .eql (iop .rem .i64 b (iop .shl .i64 1 a)) 0) then
 some ((cop .leq b (iop .sub .i64 1099511627776 (iop .shl .i64 1 a))))
 else
 some (false)):=by kernel_rfl
noncomputable def Zy5:Fn:=⟨22,[4],[],[],0,[],[],Tryz.f200,[.c (.int .i64),.c (.int .i64)],[.c (.bool)],[]⟩
theorem ZCz:Zy5.S.Ok Tryz.prog 200:=Zy5.ok Tryz.func200 (by kernel_rfl) trivial
noncomputable def ZzR (a b:Int):Option (Bool):=Zy5.S.g [.i a,.i b]
theorem ZsM (b a:Int):ZzR b a =
 (if (cop .eql b 32) then
 if (cop .geq a 0) then
 some ((cop .leq a 1))
 else
 some (false)
 else
 if (cop .eql b 39) then
 if (cop .geq a 0) then
 some ((cop .leq a 2))
 else
 some (false)
 else
 some (false)):=by kernel_rfl
noncomputable def ZuC:Fn:=⟨55,[2],[],[],0,[],[],Tryz.f166,[.agg hs27],[.c (.bool)],[(197,ZyP.S),(199,Zzj.S),(198,Zzd.S),(200,Zy5.S)]⟩
theorem Zta:ZuC.S.Ok Tryz.prog 166:=ZuC.ok Tryz.func166 (by kernel_rfl) ⟨Zzz,⟨Zz4,⟨ZB5,⟨ZCz,trivial⟩⟩⟩⟩
noncomputable def Zzl (a c d e f h:Int) (j:Bool):Option (Bool):=ZuC.S.g [.i a,.i c,.i d,.i e,.i f,.i h,.b j]
theorem ZsF (a g f b c d:Int) (e:Bool):Zzl a g f b c d e =
 ((ZCe a f).bind fun i=>
 if (!i) then
 some (false)
 else
 (ZBL a g f b c d e).bind fun h=>
 (ZCF h.1 h.2).bind fun j=>
 if (!j) then
 some (false)
 else
 if (cop .lss b 0) then
 some (false)
 else
 if (cop .gtr b 7) then
 some (false)
 else
 if (cop .eql a 3) then
 (ZzR c d).bind fun k=>
 if (!k) then
 some (false)
 else
 if (!e) then
 some (true)
 else
 if (cop .eql a 1) then
 some (true)
 else
 some ((cop .eql a 2))
 else
 if (cop .neq c 0) then
 some (false)
 else
 if (cop .neq d 0) then
 some (false)
 else
 if (!e) then
 some (true)
 else
 if (cop .eql a 1) then
 some (true)
 else
 some ((cop .eql a 2))):=by kernel_rfl
noncomputable def Zxt:Fn:=⟨19,[4],[(2,[(0,.c (.slice 3)),(3,.box [.int .i64,.int .i64,.int .i64]),(7,.c (.int .i64)),(8,.c (.int .i64))])],[],0,[],[],Tryz.f201,[.c (.slice 3),.agg [.int .i64,.int .i64,.int .i64]],[.c (.int .i64)],[]⟩
theorem ZBz:Zxt.S.Ok Tryz.prog 201:=Zxt.ok Tryz.func201 (by kernel_rfl) trivial
noncomputable def ZCW (a:LL) (b c d:Int):Option (Int):=Zxt.S.g [.l a,.i b,.i c,.i d]
noncomputable def Zh9 (k:Nat) (a:LL) (b c d e f:Int):Option (Int):=Zxt.lp [0] 0 r0 k [.l a,.i b,.i c,.i d,.i e,.i f]
theorem ZhZ (k:Nat) (b:LL) (c d e f a:Int):Zh9 (k+1) b c d e f a =
 (if (cop .lss a f) then
 Zm b a [.int .i64,.int .i64,.int .i64] fun (g:Int×Int×Int)=>
 if ((cop .eql c g.1)&&((cop .eql d g.2.1)&&((cop .eql e g.2.2)&&true))) then
 some (a)
 else
 Zh9 k b c d e f (iop .add .i64 a 1)
 else
 some ((-1))):=by kernel_rfl
theorem ZrZ (a:LL) (b c d:Int):ZCW a b c d =
 (Zh9 Zr a b c d (List.length a:Int) 0):=by kernel_rfl
noncomputable def Zys:Fn:=⟨9,[4],[],[],0,[],[],Tryz.f167,[.c (.slice 3),.agg [.int .i64,.int .i64,.int .i64]],[.c (.bool)],[(201,Zxt.S)]⟩
theorem ZBv:Zys.S.Ok Tryz.prog 167:=Zys.ok Tryz.func167 (by kernel_rfl) ⟨ZBz,trivial⟩
noncomputable def ZBm (a:LL) (b c d:Int):Option (Bool):=Zys.S.g [.l a,.i b,.i c,.i d]
theorem Zr4 (a:LL) (b c d:Int):ZBm a b c d =
 ((ZCW a b c d).bind fun e=>
 some ((cop .geq e 0))):=by kernel_rfl
noncomputable def F95:Fn:=⟨47,[2],[(4,[(1,.box hs16),(22,.c (.slice 3)),(23,.c (.int .i64)),(24,.c (.int .i64))])],[],0,[],[],Tryz.f95,[.agg hs16],[.c (.bool)],[(99,F99.S),(166,ZuC.S),(167,Zys.S)]⟩
theorem ZuI:F95.S.Ok Tryz.prog 95:=F95.ok Tryz.func95 (by kernel_rfl) ⟨ZyR,⟨Zta,⟨ZBv,trivial⟩⟩⟩
noncomputable def g95 (a c d:Int) (e:LL) (f h j k m n:Int) (o:Bool):Option (Bool):=F95.S.g [.i a,.i c,.i d,.l e,.i f,.i h,.i j,.i k,.i m,.i n,.b o]
noncomputable def ZqK (k:Nat) (a c d:Int) (e:LL) (f g h j m n:Int) (o:Bool) (p:LL) (q r:Int):Option (Bool):=F95.lp [0,1,0,1,1,0] 0 r0 k [.i a,.i c,.i d,.l e,.i f,.i g,.i h,.i j,.i m,.i n,.b o,.l p,.i q,.i r]
theorem Zj2 (k:Nat) (d e f:Int) (c:LL) (i j l m n o:Int) (p:Bool) (g:LL) (h b:Int):ZqK (k+1) d e f c i j l m n o p g h b =
 (if (cop .lss b h) then
 Zm g b [.int .i64,.int .i64,.int .i64] fun (a:Int×Int×Int)=>
 (g99 a.1 a.2.1 a.2.2).bind fun q=>
 if (!q) then
 some (false)
 else
 if ((cop .eql a.1 d)&&((cop .eql a.2.1 e)&&((cop .eql a.2.2 f)&&true))) then
 some (false)
 else
 ZE ((0:Int)≤b)<|
 ZE ((b:Int)≤(List.length c:Int))<|
 (ZBm (List.take (Int.toNat b) c) a.1 a.2.1 a.2.2).bind fun r=>
 if r then
 some (false)
 else
 ZqK k d e f c i j l m n o p g h (iop .add .i64 b 1)
 else
 some (true)):=by kernel_rfl
theorem Zu8 (b c d:Int) (a:LL) (e f g h i j:Int) (k:Bool):g95 b c d a e f g h i j k =
 ((g99 b c d).bind fun l=>
 if (!l) then
 some (false)
 else
 (Zzl e f g h i j k).bind fun m=>
 if (!m) then
 some (false)
 else
 if (cop .gtr (List.length a:Int) 8) then
 some (false)
 else
 ZqK Zr b c d a e f g h i j k a (List.length a:Int) 0):=by kernel_rfl
noncomputable def F90:Fn:=⟨46,[2],[],[],0,[],[],Tryz.f90,[.agg hs6],[.c (.bool)],[(91,F91.S),(89,F89.S),(164,Zup.S),(95,F95.S)]⟩
theorem ZCU:F90.S.Ok Tryz.prog 90:=F90.ok Tryz.func90 (by kernel_rfl) ⟨Zyz,⟨ZyY,⟨Zsf,⟨ZuI,trivial⟩⟩⟩⟩
noncomputable def g90 (a c d e f h j k m n o p q r s t u v w x:Int) (y:LL) (z A C D E G:Int) (H:Bool):Option (Bool):=F90.S.g [.i a,.i c,.i d,.i e,.i f,.i h,.i j,.i k,.i m,.i n,.i o,.i p,.i q,.i r,.i s,.i t,.i u,.i v,.i w,.i x,.l y,.i z,.i A,.i C,.i D,.i E,.i G,.b H]
theorem ZuQ (o p q b s t u v w x y z A C D r n c d e:Int) (f:LL) (g h i j k l:Int) (m:Bool):g90 o p q b s t u v w x y z A C D r n c d e f g h i j k l m =
 ((g91 o p q).bind fun E=>
 if (!E) then
 some (false)
 else
 if (cop .lss b 1) then
 some (false)
 else
 if (cop .gtr b 6) then
 some (false)
 else
 (g89 r).bind fun G=>
 if (!G) then
 some (false)
 else
 if (cop .neq n 32) then
 if (cop .neq n 39) then
 some (false)
 else
 if (cop .eql b 1) then
 (ZtW c d e f g h i j k l m 0 0 0 E0 0 0 0 0 0 0 false).bind fun a=>
 some (a)
 else
 (g95 c d e f g h i j k l m).bind fun a=>
 some (a)
 else
 if (cop .eql b 1) then
 (ZtW c d e f g h i j k l m 0 0 0 E0 0 0 0 0 0 0 false).bind fun a=>
 some (a)
 else
 (g95 c d e f g h i j k l m).bind fun a=>
 some (a)):=by kernel_rfl
noncomputable def F92:Fn:=⟨9,[2],[],[],0,[],[],Tryz.f92,[.c (.int .i64)],[.c (.bool)],[]⟩
theorem ZCT:F92.S.Ok Tryz.prog 92:=F92.ok Tryz.func92 (by kernel_rfl) trivial
noncomputable def g92 (a:Int):Option (Bool):=F92.S.g [.i a]
theorem Zxv (a:Int):g92 a =
 (if (cop .geq a 0) then
 some ((cop .leq a 99))
 else
 some (false)):=by kernel_rfl
noncomputable def F96:Fn:=⟨9,[2],[],[],0,[],[],Tryz.f96,[.c (.int .i64)],[.c (.bool)],[]⟩
theorem ZDc:F96.S.Ok Tryz.prog 96:=F96.ok Tryz.func96 (by kernel_rfl) trivial
noncomputable def g96 (a:Int):Option (Bool):=F96.S.g [.i a]
theorem ZwD (a:Int):g96 a =
 (if (cop .geq a 0) then
 some ((cop .lss a 64))
 else
 some (false)):=by kernel_rfl
noncomputable def Zxs:Fn:=⟨19,[4],[(2,[(0,.c (.slice 1)),(1,.c (.int .i64)),(7,.c (.int .i64)),(8,.c (.int .i64))])],[],0,[],[],Tryz.f202,[.c (.slice 1),.c (.int .i64)],[.c (.int .i64)],[]⟩
theorem Zz9:Zxs.S.Ok Tryz.prog 202:=Zxs.ok Tryz.func202 (by kernel_rfl) trivial
noncomputable def ZBf (a:LL) (b:Int):Option (Int):=Zxs.S.g [.l a,.i b]
noncomputable def Zey (k:Nat) (a:LL) (b c d:Int):Option (Int):=Zxs.lp [0] 0 r0 k [.l a,.i b,.i c,.i d]
theorem Zgy (k:Nat) (b:LL) (c d a:Int):Zey (k+1) b c d a =
 (if (cop .lss a d) then
 Zm b a [.int .i64] fun (e:Int)=>
 if (cop .eql c e) then
 some (a)
 else
 Zey k b c d (iop .add .i64 a 1)
 else
 some ((-1))):=by kernel_rfl
theorem ZtT (a:LL) (b:Int):ZBf a b =
 (Zey Zr a b (List.length a:Int) 0):=by kernel_rfl
noncomputable def ZyD:Fn:=⟨9,[4],[],[],0,[],[],Tryz.f170,[.c (.slice 1),.c (.int .i64)],[.c (.bool)],[(202,Zxs.S)]⟩
theorem ZAF:ZyD.S.Ok Tryz.prog 170:=ZyD.ok Tryz.func170 (by kernel_rfl) ⟨Zz9,trivial⟩
noncomputable def ZzA (a:LL) (b:Int):Option (Bool):=ZyD.S.g [.l a,.i b]
theorem Ztm (a:LL) (b:Int):ZzA a b =
 ((ZBf a b).bind fun c=>
 some ((cop .geq c 0))):=by kernel_rfl
noncomputable def ZyL:Fn:=⟨6,[2],[],[],0,[],[],Tryz.f171,[.c (.int .i64)],[.c (.bool)],[(34,F34.S)]⟩
theorem ZCl:ZyL.S.Ok Tryz.prog 171:=ZyL.ok Tryz.func171 (by kernel_rfl) ⟨ZsE,trivial⟩
noncomputable def ZCd (a:Int):Option (Bool):=ZyL.S.g [.i a]
theorem Zul (a:Int):ZCd a =
 ((g34 a).bind fun b=>
 some ((!b))):=by kernel_rfl
noncomputable def ZaA:Fn:=⟨19,[4],[(2,[(0,.c (.slice 1)),(1,.clo 171 []),(7,.c (.int .i64)),(8,.c (.int .i64))])],[],0,[],[],Tryz.f169,[.c (.slice 1),.clo 171 []],[.c (.int .i64)],[(171,ZyL.S)]⟩
theorem ZoN:ZaA.S.Ok Tryz.prog 169:=ZaA.ok Tryz.func169 (by kernel_rfl) ⟨ZCl,trivial⟩
noncomputable def Zfj (a:LL):Option (Int):=ZaA.S.g [.l a]
noncomputable def KM (k:Nat) (a:LL) (b c:Int):Option (Int):=ZaA.lp [0] 0 r0 k [.l a,.i b,.i c]
theorem Zaz (k:Nat) (b:LL) (c a:Int):KM (k+1) b c a =
 (if (cop .lss a c) then
 Zm b a [.int .i64] fun (d:Int)=>
 (ZCd d).bind fun e=>
 if e then
 some (a)
 else
 KM k b c (iop .add .i64 a 1)
 else
 some ((-1))):=by kernel_rfl
theorem ZiB (a:LL):Zfj a =
 (KM Zr a (List.length a:Int) 0):=by kernel_rfl
noncomputable def Zcc:Fn:=⟨9,[4],[],[],0,[],[],Tryz.f100,[.c (.slice 1),.clo 171 []],[.c (.bool)],[(169,ZaA.S)]⟩
theorem Zm8:Zcc.S.Ok Tryz.prog 100:=Zcc.ok Tryz.func100 (by kernel_rfl) ⟨ZoN,trivial⟩
noncomputable def Zf6 (a:LL):Option (Bool):=Zcc.S.g [.l a]
theorem Zij (a:LL):Zf6 a =
 ((Zfj a).bind fun b=>
 some ((cop .geq b 0))):=by kernel_rfl
noncomputable def Zuz:Fn:=⟨45,[2],[(4,[(1,.box [.int .i64,.slice 1,.slice 1]),(22,.c (.slice 1)),(23,.c (.int .i64)),(24,.c (.int .i64))])],[],0,[],[],Tryz.f105,[.agg [.int .i64,.slice 1,.slice 1]],[.c (.bool)],[(33,F33.S),(34,F34.S),(170,ZyD.S),(100,Zcc.S)]⟩
theorem Zvv:Zuz.S.Ok Tryz.prog 105:=Zuz.ok Tryz.func105 (by kernel_rfl) ⟨Zzw,⟨ZsE,⟨ZAF,⟨Zm8,trivial⟩⟩⟩⟩
noncomputable def ZuU (a:Int) (b c:LL):Option (Bool):=Zuz.S.g [.i a,.l b,.l c]
noncomputable def Zdg (k:Nat) (a:Int) (b c d:LL) (e f:Int):Option (Bool):=Zuz.lp [0,1,1,1,0] 0 r0 k [.i a,.l b,.l c,.l d,.i e,.i f]
theorem ZhC (k:Nat) (g:Int) (b d e:LL) (f a:Int):Zdg (k+1) g b d e f a =
 (if (cop .lss a f) then
 Zm e a [.int .i64] fun (c:Int)=>
 (g34 c).bind fun h=>
 if (!h) then
 some (false)
 else
 ZE ((0:Int)≤a)<|
 ZE ((a:Int)≤(List.length b:Int))<|
 (ZzA (List.take (Int.toNat a) b) c).bind fun i=>
 if i then
 some (false)
 else
 Zdg k g b d e f (iop .add .i64 a 1)
 else
 (Zf6 d).bind fun c=>
 some ((!c))):=by kernel_rfl
theorem Zt9 (b:Int) (a c:LL):ZuU b a c =
 ((g33 b).bind fun d=>
 if (!d) then
 some (false)
 else
 if (cop .gtr (List.length a:Int) 32) then
 some (false)
 else
 if (cop .gtr (List.length c:Int) 16) then
 some (false)
 else
 Zdg Zr b a c a (List.length a:Int) 0):=by kernel_rfl
noncomputable def Zxl:Fn:=⟨8,[2],[],[],0,[],[],Tryz.f225,[.agg hs11],[.c (.bool)],[]⟩
theorem ZwG:Zxl.S.Ok Tryz.prog 225:=Zxl.ok Tryz.func225 (by kernel_rfl) trivial
noncomputable def Zzy (a c d:Int) (e:LL) (f h j k m n:Int) (o:Bool) (p q r s:Int):Option (Bool):=Zxl.S.g [.i a,.i c,.i d,.l e,.i f,.i h,.i j,.i k,.i m,.i n,.b o,.i p,.i q,.i r,.i s]
theorem Znz (a b c:Int) (d:LL) (e f g h i j:Int) (k:Bool) (l m n o:Int):Zzy a b c d e f g h i j k l m n o =
 (some (((cop .eql a 0)&&((cop .eql b 0)&&((cop .eql c 0)&&true))))):=by kernel_rfl
noncomputable def Zyp:Fn:=⟨43,[2],[],[],0,[],[],Tryz.f203,[.agg hs11],[.c (.bool)],[(225,Zxl.S),(164,Zup.S),(95,F95.S),(99,F99.S)]⟩
theorem ZBS:Zyp.S.Ok Tryz.prog 203:=Zyp.ok Tryz.func203 (by kernel_rfl) ⟨ZwG,⟨Zsf,⟨ZuI,⟨ZyR,trivial⟩⟩⟩⟩
noncomputable def ZAj (a c d:Int) (e:LL) (f h j k m n:Int) (o:Bool) (p q r s:Int):Option (Bool):=Zyp.S.g [.i a,.i c,.i d,.l e,.i f,.i h,.i j,.i k,.i m,.i n,.b o,.i p,.i q,.i r,.i s]
theorem Zsi (d e f:Int) (g:LL) (h i j k l m:Int) (n:Bool) (o b c a:Int):ZAj d e f g h i j k l m n o b c a =
 (if (cop .lss o 0) then
 some (false)
 else
 if (cop .gtr o 1073741824) then
 some (false)
 else
 (Zzy d e f g h i j k l m n o b c a).bind fun q=>
 if q then
 (ZtW d e f g h i j k l m n 0 0 0 E0 0 0 0 0 0 0 false).bind fun p=>
 if p then
 some (((cop .eql b 0)&&((cop .eql c 0)&&((cop .eql a 0)&&true))))
 else
 some (false)
 else
 (g95 d e f g h i j k l m n).bind fun p=>
 if p then
 if ((cop .eql b 0)&&((cop .eql c 0)&&((cop .eql a 0)&&true))) then
 some (true)
 else
 (g99 b c a).bind fun r=>
 if r then
 some ((cop .eql a 0))
 else
 some (false)
 else
 some (false)):=by kernel_rfl
noncomputable def ZwY:Fn:=⟨27,[4,5],[(2,[(3,.box [.int .i64,.int .i64,.int .i64]),(8,.c (.slice 15)),(9,.c (.int .i64)),(10,.c (.int .i64))])],[],0,[],[],Tryz.f204,[.c (.slice 15),.agg [.int .i64,.int .i64,.int .i64]],[.c (.int .i64),.c (.bool)],[(225,Zxl.S)]⟩
theorem ZCp:ZwY.S.Ok Tryz.prog 204:=ZwY.ok Tryz.func204 (by kernel_rfl) ⟨ZwG,trivial⟩
noncomputable def ZAO (a:LL) (b c d:Int):Option (Int×Bool):=ZwY.S.g [.l a,.i b,.i c,.i d]
noncomputable def Zc5 (k:Nat) (a b c:Int) (d:LL) (e f:Int):Option (Int×Bool):=ZwY.lp [0] 0 r0 k [.i a,.i b,.i c,.l d,.i e,.i f]
theorem Zhz (k:Nat) (c d e:Int) (f:LL) (g b:Int):Zc5 (k+1) c d e f g b =
 (if (cop .lss b g) then
 Zm f b hs11 fun (a:Qt21)=>
 (Zzy a.1 a.2.1 a.2.2.1 a.2.2.2.1 a.2.2.2.2.1 a.2.2.2.2.2.1 a.2.2.2.2.2.2.1 a.2.2.2.2.2.2.2.1 a.2.2.2.2.2.2.2.2.1 a.2.2.2.2.2.2.2.2.2.1 a.2.2.2.2.2.2.2.2.2.2.1 a.2.2.2.2.2.2.2.2.2.2.2.1 (d4 (d8 a)).1 (d4 (d8 a)).2.1 (d2 (d4 (d8 a)))).bind fun h=>
 if (!h) then
 if ((cop .eql a.1 c)&&((cop .eql a.2.1 d)&&((cop .eql a.2.2.1 e)&&true))) then
 some (b,true)
 else
 Zc5 k c d e f g (iop .add .i64 b 1)
 else
 Zc5 k c d e f g (iop .add .i64 b 1)
 else
 some (0,false)):=by kernel_rfl
theorem Zuf (a:LL) (b c d:Int):ZAO a b c d =
 (Zc5 Zr b c d a (List.length a:Int) 0):=by kernel_rfl
noncomputable def Zu5:Fn:=⟨32,[2],[(4,[(0,.c (.slice 15)),(10,.c (.slice 15)),(11,.c (.int .i64)),(12,.c (.int .i64))])],[],0,[],[],Tryz.f172,[.c (.slice 15)],[.c (.bool)],[(203,Zyp.S),(204,ZwY.S)]⟩
theorem ZAX:Zu5.S.Ok Tryz.prog 172:=Zu5.ok Tryz.func172 (by kernel_rfl) ⟨ZBS,⟨ZCp,trivial⟩⟩
noncomputable def ZA1 (a:LL):Option (Bool):=Zu5.S.g [.l a]
noncomputable def ZeU (k:Nat) (a b:LL) (c d:Int):Option (Bool):=Zu5.lp [1,0] 0 r0 k [.l a,.l b,.i c,.i d]
theorem ZhM (k:Nat) (c d:LL) (e b:Int):ZeU (k+1) c d e b =
 (if (cop .lss b e) then
 Zm d b hs11 fun (a:Qt21)=>
 (ZAj a.1 a.2.1 a.2.2.1 a.2.2.2.1 a.2.2.2.2.1 a.2.2.2.2.2.1 a.2.2.2.2.2.2.1 a.2.2.2.2.2.2.2.1 a.2.2.2.2.2.2.2.2.1 a.2.2.2.2.2.2.2.2.2.1 a.2.2.2.2.2.2.2.2.2.2.1 a.2.2.2.2.2.2.2.2.2.2.2.1 (d4 (d8 a)).1 (d4 (d8 a)).2.1 (d2 (d4 (d8 a)))).bind fun f=>
 if (!f) then
 some (false)
 else
 ZE ((0:Int)≤b)<|
 ZE ((b:Int)≤(List.length c:Int))<|
 (ZAO (List.take (Int.toNat b) c) a.1 a.2.1 a.2.2.1).bind fun g=>
 if g.2 then
 some (false)
 else
 ZeU k c d e (iop .add .i64 b 1)
 else
 some (true)):=by kernel_rfl
theorem Zsq (a:LL):ZA1 a =
 (if (cop .gtr (List.length a:Int) 64) then
 some (false)
 else
 ZeU Zr a a (List.length a:Int) 0):=by kernel_rfl
noncomputable def Zzk:Fn:=⟨6,[2],[],[],0,[],[],Tryz.f206,[.agg hs6],[.c (.bool)],[(90,F90.S)]⟩
theorem ZzF:Zzk.S.Ok Tryz.prog 206:=Zzk.ok Tryz.func206 (by kernel_rfl) ⟨ZCU,trivial⟩
noncomputable def ZCb (a c d e f h j k m n o p q r s t u v w x:Int) (y:LL) (z A C D E G:Int) (H:Bool):Option (Bool):=Zzk.S.g [.i a,.i c,.i d,.i e,.i f,.i h,.i j,.i k,.i m,.i n,.i o,.i p,.i q,.i r,.i s,.i t,.i u,.i v,.i w,.i x,.l y,.i z,.i A,.i C,.i D,.i E,.i G,.b H]
theorem Zug (a b c d e f g h i j k l m n o p q r s t:Int) (u:LL) (v w x y z A:Int) (C:Bool):ZCb a b c d e f g h i j k l m n o p q r s t u v w x y z A C =
 ((g90 a b c d e f g h i j k l m n o p q r s t u v w x y z A C).bind fun D=>
 some ((!D))):=by kernel_rfl
noncomputable def Zaw:Fn:=⟨19,[4],[(2,[(0,.c (.slice 28)),(1,.clo 206 []),(7,.c (.int .i64)),(8,.c (.int .i64))])],[],0,[],[],Tryz.f226,[.c (.slice 28),.clo 206 []],[.c (.int .i64)],[(206,Zzk.S)]⟩
theorem Znm:Zaw.S.Ok Tryz.prog 226:=Zaw.ok Tryz.func226 (by kernel_rfl) ⟨ZzF,trivial⟩
noncomputable def Zf5 (a:LL):Option (Int):=Zaw.S.g [.l a]
noncomputable def KQ (k:Nat) (a:LL) (b c:Int):Option (Int):=Zaw.lp [0] 0 r0 k [.l a,.i b,.i c]
theorem ZaI (k:Nat) (c:LL) (d b:Int):KQ (k+1) c d b =
 (if (cop .lss b d) then
 Zm c b hs6 fun (a:Qt10)=>
 (ZCb a.1 a.2.1 a.2.2.1 a.2.2.2.1 a.2.2.2.2.1 a.2.2.2.2.2.1 a.2.2.2.2.2.2.1 a.2.2.2.2.2.2.2.1 a.2.2.2.2.2.2.2.2.1 a.2.2.2.2.2.2.2.2.2.1 a.2.2.2.2.2.2.2.2.2.2.1 a.2.2.2.2.2.2.2.2.2.2.2.1 (d4 (d8 a)).1 (d4 (d8 a)).2.1 (d2 (d4 (d8 a))).1 (d2 (d4 (d8 a))).2.1 (d16 a).1 (d16 a).2.1 (d2 (d16 a)).1 (d2 (d16 a)).2.1 (d4 (d16 a)).1 (d4 (d16 a)).2.1 (d2 (d4 (d16 a))).1 (d2 (d4 (d16 a))).2.1 (d8 (d16 a)).1 (d8 (d16 a)).2.1 (d2 (d8 (d16 a))).1 (d2 (d8 (d16 a))).2).bind fun e=>
 if e then
 some (b)
 else
 KQ k c d (iop .add .i64 b 1)
 else
 some ((-1))):=by kernel_rfl
theorem ZiS (a:LL):Zf5 a =
 (KQ Zr a (List.length a:Int) 0):=by kernel_rfl
noncomputable def Zci:Fn:=⟨9,[4],[],[],0,[],[],Tryz.f205,[.c (.slice 28),.clo 206 []],[.c (.bool)],[(226,Zaw.S)]⟩
theorem Znj:Zci.S.Ok Tryz.prog 205:=Zci.ok Tryz.func205 (by kernel_rfl) ⟨Znm,trivial⟩
noncomputable def Zgh (a:LL):Option (Bool):=Zci.S.g [.l a]
theorem Zit (a:LL):Zgh a =
 ((Zf5 a).bind fun b=>
 some ((cop .geq b 0))):=by kernel_rfl
noncomputable def Zyr:Fn:=⟨6,[2],[],[],0,[],[],Tryz.f239,[.c (.int .i64)],[.c (.bool)],[]⟩
theorem ZA7:Zyr.S.Ok Tryz.prog 239:=Zyr.ok Tryz.func239 (by kernel_rfl) trivial
noncomputable def ZyT (a:Int):Option (Bool):=Zyr.S.g [.i a]
theorem Ztr (a:Int):ZyT a =
 (some ((cop .neq a a))):=by kernel_rfl
noncomputable def Zy9:Fn:=⟨20,[4],[],[],0,[],[],Tryz.f238,[.c (.int .i64),.c (.int .i64)],[.c (.int .i64)],[(239,Zyr.S)]⟩
theorem Zz2:Zy9.S.Ok Tryz.prog 238:=Zy9.ok Tryz.func238 (by kernel_rfl) ⟨ZA7,trivial⟩
noncomputable def Zxo (a b:Int):Option (Int):=Zy9.S.g [.i a,.i b]
theorem ZsT (a b:Int):Zxo a b =
 ((ZyT a).bind fun d=>
 (ZyT b).bind fun c=>
 if d then
 if c then
 some (0)
 else
 some ((-1))
 else
 if c then
 some (1)
 else
 if (cop .lss a b) then
 some ((-1))
 else
 if (cop .gtr a b) then
 some (1)
 else
 some (0)):=by kernel_rfl
noncomputable def ZwO:Fn:=⟨18,[2],[(3,[(3,.c (.int .i64)),(6,.c (.slice 1)),(7,.c (.int .i64)),(8,.c (.int .i64))])],[],0,[],[],Tryz.f237,[.c (.slice 1)],[.c (.int .i64)],[]⟩
theorem ZCG:ZwO.S.Ok Tryz.prog 237:=ZwO.ok Tryz.func237 (by kernel_rfl) trivial
noncomputable def Zz3 (a:LL):Option (Int):=ZwO.S.g [.l a]
noncomputable def Zn0 (k:Nat) (a:Int) (b:LL) (c d:Int):Option (Int):=ZwO.lp [0] 0 r0 k [.i a,.l b,.i c,.i d]
theorem ZaB (k:Nat) (a:Int) (c:LL) (d b:Int):Zn0 (k+1) a c d b =
 (if (cop .lss b d) then
 Zm c b [.int .i64] fun (e:Int)=>
 if (cop .neq e a) then
 some (e)
 else
 Zn0 k a c d (iop .add .i64 b 1)
 else
 some (a)):=by kernel_rfl
theorem Zsa (a:LL):Zz3 a =
 (Zn0 Zr 0 a (List.length a:Int) 0):=by kernel_rfl
noncomputable def Zzn:Fn:=⟨22,[4],[],[],0,[],[],Tryz.f227,[.agg [.int .i64,.int .i64,.int .i64],.agg [.int .i64,.int .i64,.int .i64]],[.c (.int .i64)],[(238,Zy9.S),(237,ZwO.S)]⟩
theorem ZBr:Zzn.S.Ok Tryz.prog 227:=Zzn.ok Tryz.func227 (by kernel_rfl) ⟨Zz2,⟨ZCG,trivial⟩⟩
noncomputable def Zzt (a b c d e f:Int):Option (Int):=Zzn.S.g [.i a,.i b,.i c,.i d,.i e,.i f]
theorem Zsg (a b c d e f:Int):Zzt a b c d e f =
 ((Zxo a d).bind fun g=>
 (Zxo b e).bind fun h=>
 (Zxo c f).bind fun i=>
 (Zz3 (((E0++[[AV.val (.int .i64 g)]])++[[AV.val (.int .i64 h)]])++[[AV.val (.int .i64 i)]])).bind fun j=>
 some (j)):=by kernel_rfl
noncomputable def ZvJ:Fn:=⟨9,[4],[],[],0,[],[],Tryz.f208,[.agg [.int .i64,.int .i64,.int .i64],.agg [.int .i64,.int .i64,.int .i64]],[.c (.bool)],[(227,Zzn.S)]⟩
theorem Zv0:ZvJ.S.Ok Tryz.prog 208:=ZvJ.ok Tryz.func208 (by kernel_rfl) ⟨ZBr,trivial⟩
noncomputable def Zyq (a b c d e f:Int):Option (Bool):=ZvJ.S.g [.i a,.i b,.i c,.i d,.i e,.i f]
theorem Zua (a b c d e f:Int):Zyq a b c d e f =
 ((Zzt a b c d e f).bind fun g=>
 some ((cop .lss g 0))):=by kernel_rfl
noncomputable def Zym:Fn:=⟨17,[5],[],[2],0,[],[],Tryz.f207,[.c (.int .i64),.c (.int .i64),.box [.slice 28]],[.c (.bool)],[(208,ZvJ.S)]⟩
theorem ZAv:Zym.S.Ok Tryz.prog 207:=Zym.ok Tryz.func207 (by kernel_rfl) ⟨Zv0,trivial⟩
noncomputable def ZAm (a b:Int) (c:LL):Option (Bool×LL):=Zym.S.g [.i a,.i b,.l c]
theorem ZtL (d e:Int) (a:LL):ZAm d e a =
 (Zm a d hs6 fun (b:Qt10)=>
 Zm a e hs6 fun (c:Qt10)=>
 (Zyq b.1 b.2.1 b.2.2.1 c.1 c.2.1 c.2.2.1).bind fun f=>
 some (f,a)):=by kernel_rfl
noncomputable def Za0:Fn:=⟨17,[4],[(2,[(0,.c (.int .i64)),(1,.clo 207 [17]),(5,.c (.int .i64)),(17,.gbox [.slice 28])])],[],1,[],[],Tryz.f102,[.c (.int .i64),.clo 207 [17],.dead,.dead,.dead,.dead,.dead,.dead,.dead,.dead,.dead,.dead,.dead,.dead,.dead,.dead,.dead,.gbox [.slice 28]],[.c (.bool)],[(207,Zym.S)]⟩
theorem ZoG:Za0.S.Ok Tryz.prog 102:=Za0.ok Tryz.func102 (by kernel_rfl) ⟨ZAv,trivial⟩
noncomputable def ZfY (a:Int) (b:LL):Option (Bool×LL):=Za0.S.g [.i a,.l b]
noncomputable def KO (k:Nat) (a b:Int) (c:LL):Option (Bool×LL):=Za0.lp [0] 0 r0 k [.i a,.i b,.l c]
theorem Za3 (k:Nat) (b a:Int) (c:LL):KO (k+1) b a c =
 (if (cop .lss a b) then
 (ZAm (iop .sub .i64 a 1) a c).bind fun d=>
 if (!d.1) then
 some (false,d.2)
 else
 KO k b (iop .add .i64 a 1) d.2
 else
 some (true,c)):=by kernel_rfl
theorem ZiO (a:Int) (b:LL):ZfY a b =
 (KO Zr a 1 b):=by kernel_rfl
noncomputable def Zyj:Fn:=⟨12,[2],[],[],0,[],[],Tryz.f173,[.c (.slice 28)],[.c (.bool)],[(205,Zci.S),(102,Za0.S)]⟩
theorem Zzu:Zyj.S.Ok Tryz.prog 173:=Zyj.ok Tryz.func173 (by kernel_rfl) ⟨Znj,⟨ZoG,trivial⟩⟩
noncomputable def ZBs (a:LL):Option (Bool):=Zyj.S.g [.l a]
theorem Ztj (a:LL):ZBs a =
 ((Zgh a).bind fun b=>
 if (!b) then
 (ZfY (List.length a:Int) a).bind fun c=>
 some (c.1)
 else
 some (false)):=by kernel_rfl
noncomputable def Zyg:Fn:=⟨13,[2],[],[],0,[],[],Tryz.f210,[.agg [.int .i64,.int .i64,.int .i64,.int .i64]],[.c (.bool)],[(89,F89.S),(91,F91.S)]⟩
theorem ZAB:Zyg.S.Ok Tryz.prog 210:=Zyg.ok Tryz.func210 (by kernel_rfl) ⟨ZyY,⟨Zyz,trivial⟩⟩
noncomputable def ZBR (a b c d:Int):Option (Bool):=Zyg.S.g [.i a,.i b,.i c,.i d]
theorem Zuc (a b c d:Int):ZBR a b c d =
 ((g89 a).bind fun e=>
 if (!e) then
 some (true)
 else
 (g91 b c d).bind fun f=>
 some ((!f))):=by kernel_rfl
noncomputable def ZaQ:Fn:=⟨19,[4],[(2,[(0,.c (.slice 4)),(1,.clo 210 []),(7,.c (.int .i64)),(8,.c (.int .i64))])],[],0,[],[],Tryz.f228,[.c (.slice 4),.clo 210 []],[.c (.int .i64)],[(210,Zyg.S)]⟩
theorem Zmt:ZaQ.S.Ok Tryz.prog 228:=ZaQ.ok Tryz.func228 (by kernel_rfl) ⟨ZAB,trivial⟩
noncomputable def ZfG (a:LL):Option (Int):=ZaQ.S.g [.l a]
noncomputable def KG (k:Nat) (a:LL) (b c:Int):Option (Int):=ZaQ.lp [0] 0 r0 k [.l a,.i b,.i c]
theorem ZaM (k:Nat) (c:LL) (d a:Int):KG (k+1) c d a =
 (if (cop .lss a d) then
 Zm c a [.int .i64,.int .i64,.int .i64,.int .i64] fun (b:Int×Int×Int×Int)=>
 (ZBR b.1 b.2.1 b.2.2.1 b.2.2.2).bind fun e=>
 if e then
 some (a)
 else
 KG k c d (iop .add .i64 a 1)
 else
 some ((-1))):=by kernel_rfl
theorem Ziw (a:LL):ZfG a =
 (KG Zr a (List.length a:Int) 0):=by kernel_rfl
noncomputable def Zb7:Fn:=⟨9,[4],[],[],0,[],[],Tryz.f209,[.c (.slice 4),.clo 210 []],[.c (.bool)],[(228,ZaQ.S)]⟩
theorem ZmA:Zb7.S.Ok Tryz.prog 209:=Zb7.ok Tryz.func209 (by kernel_rfl) ⟨Zmt,trivial⟩
noncomputable def Ze3 (a:LL):Option (Bool):=Zb7.S.g [.l a]
theorem ZiW (a:LL):Ze3 a =
 ((ZfG a).bind fun b=>
 some ((cop .geq b 0))):=by kernel_rfl
noncomputable def Zyo:Fn:=⟨17,[5],[],[2],0,[],[],Tryz.f211,[.c (.int .i64),.c (.int .i64),.box [.slice 4]],[.c (.bool)],[]⟩
theorem ZBp:Zyo.S.Ok Tryz.prog 211:=Zyo.ok Tryz.func211 (by kernel_rfl) trivial
noncomputable def ZCf (a b:Int) (c:LL):Option (Bool×LL):=Zyo.S.g [.i a,.i b,.l c]
theorem ZrJ (b c:Int) (a:LL):ZCf b c a =
 (Zm a b [.int .i64,.int .i64,.int .i64,.int .i64] fun (d:Int×Int×Int×Int)=>
 Zm a c [.int .i64,.int .i64,.int .i64,.int .i64] fun (e:Int×Int×Int×Int)=>
 some ((cop .lss d.1 e.1),a)):=by kernel_rfl
noncomputable def Zax:Fn:=⟨17,[4],[(2,[(0,.c (.int .i64)),(1,.clo 211 [17]),(5,.c (.int .i64)),(17,.gbox [.slice 4])])],[],1,[],[],Tryz.f102,[.c (.int .i64),.clo 211 [17],.dead,.dead,.dead,.dead,.dead,.dead,.dead,.dead,.dead,.dead,.dead,.dead,.dead,.dead,.dead,.gbox [.slice 4]],[.c (.bool)],[(211,Zyo.S)]⟩
theorem ZnX:Zax.S.Ok Tryz.prog 102:=Zax.ok Tryz.func102 (by kernel_rfl) ⟨ZBp,trivial⟩
noncomputable def ZfV (a:Int) (b:LL):Option (Bool×LL):=Zax.S.g [.i a,.l b]
noncomputable def KI (k:Nat) (a b:Int) (c:LL):Option (Bool×LL):=Zax.lp [0] 0 r0 k [.i a,.i b,.l c]
theorem Zak (k:Nat) (b a:Int) (c:LL):KI (k+1) b a c =
 (if (cop .lss a b) then
 (ZCf (iop .sub .i64 a 1) a c).bind fun d=>
 if (!d.1) then
 some (false,d.2)
 else
 KI k b (iop .add .i64 a 1) d.2
 else
 some (true,c)):=by kernel_rfl
theorem Zie (a:Int) (b:LL):ZfV a b =
 (KI Zr a 1 b):=by kernel_rfl
noncomputable def Zyw:Fn:=⟨12,[2],[],[],0,[],[],Tryz.f174,[.c (.slice 4)],[.c (.bool)],[(209,Zb7.S),(102,Zax.S)]⟩
theorem ZBM:Zyw.S.Ok Tryz.prog 174:=Zyw.ok Tryz.func174 (by kernel_rfl) ⟨ZmA,⟨ZnX,trivial⟩⟩
noncomputable def ZzC (a:LL):Option (Bool):=Zyw.S.g [.l a]
theorem ZsR (a:LL):ZzC a =
 ((Ze3 a).bind fun b=>
 if (!b) then
 (ZfV (List.length a:Int) a).bind fun c=>
 some (c.1)
 else
 some (false)):=by kernel_rfl
noncomputable def Zyt:Fn:=⟨17,[2],[],[],0,[],[],Tryz.f213,[.agg [.int .i64,.int .i64]],[.c (.bool)],[(92,F92.S)]⟩
theorem ZBa:Zyt.S.Ok Tryz.prog 213:=Zyt.ok Tryz.func213 (by kernel_rfl) ⟨ZCT,trivial⟩
noncomputable def ZAh (a b:Int):Option (Bool):=Zyt.S.g [.i a,.i b]
theorem ZsS (a b:Int):ZAh a b =
 (if (cop .lss a 1) then
 some (true)
 else
 if (cop .gtr a 1073741824) then
 some (true)
 else
 (g92 b).bind fun c=>
 some ((!c))):=by kernel_rfl
noncomputable def Zar:Fn:=⟨19,[4],[(2,[(0,.c (.slice 2)),(1,.clo 213 []),(7,.c (.int .i64)),(8,.c (.int .i64))])],[],0,[],[],Tryz.f229,[.c (.slice 2),.clo 213 []],[.c (.int .i64)],[(213,Zyt.S)]⟩
theorem Zn7:Zar.S.Ok Tryz.prog 229:=Zar.ok Tryz.func229 (by kernel_rfl) ⟨ZBa,trivial⟩
noncomputable def Zf0 (a:LL):Option (Int):=Zar.S.g [.l a]
noncomputable def KU (k:Nat) (a:LL) (b c:Int):Option (Int):=Zar.lp [0] 0 r0 k [.l a,.i b,.i c]
theorem ZaS (k:Nat) (b:LL) (c a:Int):KU (k+1) b c a =
 (if (cop .lss a c) then
 Zm b a [.int .i64,.int .i64] fun (d:Int×Int)=>
 (ZAh d.1 d.2).bind fun e=>
 if e then
 some (a)
 else
 KU k b c (iop .add .i64 a 1)
 else
 some ((-1))):=by kernel_rfl
theorem Zii (a:LL):Zf0 a =
 (KU Zr a (List.length a:Int) 0):=by kernel_rfl
noncomputable def Zcp:Fn:=⟨9,[4],[],[],0,[],[],Tryz.f212,[.c (.slice 2),.clo 213 []],[.c (.bool)],[(229,Zar.S)]⟩
theorem Zmo:Zcp.S.Ok Tryz.prog 212:=Zcp.ok Tryz.func212 (by kernel_rfl) ⟨Zn7,trivial⟩
noncomputable def Zft (a:LL):Option (Bool):=Zcp.S.g [.l a]
theorem Zjo (a:LL):Zft a =
 ((Zf0 a).bind fun b=>
 some ((cop .geq b 0))):=by kernel_rfl
noncomputable def ZyU:Fn:=⟨17,[5],[],[2],0,[],[],Tryz.f214,[.c (.int .i64),.c (.int .i64),.box [.slice 2]],[.c (.bool)],[]⟩
theorem ZCo:ZyU.S.Ok Tryz.prog 214:=ZyU.ok Tryz.func214 (by kernel_rfl) trivial
noncomputable def ZAw (a b:Int) (c:LL):Option (Bool×LL):=ZyU.S.g [.i a,.i b,.l c]
theorem Zt3 (b c:Int) (a:LL):ZAw b c a =
 (Zm a b [.int .i64,.int .i64] fun (d:Int×Int)=>
 Zm a c [.int .i64,.int .i64] fun (e:Int×Int)=>
 some ((cop .lss d.1 e.1),a)):=by kernel_rfl
noncomputable def Zan:Fn:=⟨17,[4],[(2,[(0,.c (.int .i64)),(1,.clo 214 [17]),(5,.c (.int .i64)),(17,.gbox [.slice 2])])],[],1,[],[],Tryz.f102,[.c (.int .i64),.clo 214 [17],.dead,.dead,.dead,.dead,.dead,.dead,.dead,.dead,.dead,.dead,.dead,.dead,.dead,.dead,.dead,.gbox [.slice 2]],[.c (.bool)],[(214,ZyU.S)]⟩
theorem Zmx:Zan.S.Ok Tryz.prog 102:=Zan.ok Tryz.func102 (by kernel_rfl) ⟨ZCo,trivial⟩
noncomputable def Zf8 (a:Int) (b:LL):Option (Bool×LL):=Zan.S.g [.i a,.l b]
noncomputable def KN (k:Nat) (a b:Int) (c:LL):Option (Bool×LL):=Zan.lp [0] 0 r0 k [.i a,.i b,.l c]
theorem ZaT (k:Nat) (b a:Int) (c:LL):KN (k+1) b a c =
 (if (cop .lss a b) then
 (ZAw (iop .sub .i64 a 1) a c).bind fun d=>
 if (!d.1) then
 some (false,d.2)
 else
 KN k b (iop .add .i64 a 1) d.2
 else
 some (true,c)):=by kernel_rfl
theorem ZiV (a:Int) (b:LL):Zf8 a b =
 (KN Zr a 1 b):=by kernel_rfl
noncomputable def Zy3:Fn:=⟨12,[2],[],[],0,[],[],Tryz.f175,[.c (.slice 2)],[.c (.bool)],[(212,Zcp.S),(102,Zan.S)]⟩
theorem ZBV:Zy3.S.Ok Tryz.prog 175:=Zy3.ok Tryz.func175 (by kernel_rfl) ⟨Zmo,⟨Zmx,trivial⟩⟩
noncomputable def ZzE (a:LL):Option (Bool):=Zy3.S.g [.l a]
theorem Zsl (a:LL):ZzE a =
 ((Zft a).bind fun b=>
 if (!b) then
 (Zf8 (List.length a:Int) a).bind fun c=>
 some (c.1)
 else
 some (false)):=by kernel_rfl
noncomputable def Zzh:Fn:=⟨19,[2],[],[],0,[],[],Tryz.f216,[.agg hs12],[.c (.bool)],[(34,F34.S),(96,F96.S),(95,F95.S)]⟩
theorem ZCs:Zzh.S.Ok Tryz.prog 216:=Zzh.ok Tryz.func216 (by kernel_rfl) ⟨ZsE,⟨ZDc,⟨ZuI,trivial⟩⟩⟩
noncomputable def Zzx (a c d e f:Int) (h:LL) (j k m n o p:Int) (q:Bool):Option (Bool):=Zzh.S.g [.i a,.i c,.i d,.i e,.i f,.l h,.i j,.i k,.i m,.i n,.i o,.i p,.b q]
theorem Ztn (a b c d e:Int) (f:LL) (g h i j k l:Int) (m:Bool):Zzx a b c d e f g h i j k l m =
 ((g34 a).bind fun n=>
 if (!n) then
 some (true)
 else
 (g96 b).bind fun o=>
 if (!o) then
 some (true)
 else
 (g95 c d e f g h i j k l m).bind fun p=>
 some ((!p))):=by kernel_rfl
noncomputable def Zal:Fn:=⟨19,[4],[(2,[(0,.c (.slice 13)),(1,.clo 216 []),(7,.c (.int .i64)),(8,.c (.int .i64))])],[],0,[],[],Tryz.f230,[.c (.slice 13),.clo 216 []],[.c (.int .i64)],[(216,Zzh.S)]⟩
theorem ZoH:Zal.S.Ok Tryz.prog 230:=Zal.ok Tryz.func230 (by kernel_rfl) ⟨ZCs,trivial⟩
noncomputable def Zgc (a:LL):Option (Int):=Zal.S.g [.l a]
noncomputable def KK (k:Nat) (a:LL) (b c:Int):Option (Int):=Zal.lp [0] 0 r0 k [.l a,.i b,.i c]
theorem Zbc (k:Nat) (c:LL) (d b:Int):KK (k+1) c d b =
 (if (cop .lss b d) then
 Zm c b hs12 fun (a:Qt25)=>
 (Zzx a.1 a.2.1 a.2.2.1 a.2.2.2.1 a.2.2.2.2.1 a.2.2.2.2.2.1 a.2.2.2.2.2.2.1 a.2.2.2.2.2.2.2.1 a.2.2.2.2.2.2.2.2.1 a.2.2.2.2.2.2.2.2.2.1 a.2.2.2.2.2.2.2.2.2.2.1 a.2.2.2.2.2.2.2.2.2.2.2.1 (d4 (d8 a))).bind fun e=>
 if e then
 some (b)
 else
 KK k c d (iop .add .i64 b 1)
 else
 some ((-1))):=by kernel_rfl
theorem Zjs (a:LL):Zgc a =
 (KK Zr a (List.length a:Int) 0):=by kernel_rfl
noncomputable def Zcg:Fn:=⟨9,[4],[],[],0,[],[],Tryz.f215,[.c (.slice 13),.clo 216 []],[.c (.bool)],[(230,Zal.S)]⟩
theorem ZoK:Zcg.S.Ok Tryz.prog 215:=Zcg.ok Tryz.func215 (by kernel_rfl) ⟨ZoH,trivial⟩
noncomputable def Ze8 (a:LL):Option (Bool):=Zcg.S.g [.l a]
theorem Zjk (a:LL):Ze8 a =
 ((Zgc a).bind fun b=>
 some ((cop .geq b 0))):=by kernel_rfl
noncomputable def Zy0:Fn:=⟨19,[5],[],[2],0,[],[],Tryz.f217,[.c (.int .i64),.c (.int .i64),.box [.slice 13]],[.c (.bool)],[(208,ZvJ.S)]⟩
theorem ZAx:Zy0.S.Ok Tryz.prog 217:=Zy0.ok Tryz.func217 (by kernel_rfl) ⟨Zv0,trivial⟩
noncomputable def ZBP (a b:Int) (c:LL):Option (Bool×LL):=Zy0.S.g [.i a,.i b,.l c]
theorem ZsC (d e:Int) (a:LL):ZBP d e a =
 (Zm a d hs12 fun (b:Qt25)=>
 Zm a e hs12 fun (c:Qt25)=>
 (Zyq b.2.2.1 b.2.2.2.1 b.2.2.2.2.1 c.2.2.1 c.2.2.2.1 c.2.2.2.2.1).bind fun f=>
 some (f,a)):=by kernel_rfl
noncomputable def Zas:Fn:=⟨17,[4],[(2,[(0,.c (.int .i64)),(1,.clo 217 [17]),(5,.c (.int .i64)),(17,.gbox [.slice 13])])],[],1,[],[],Tryz.f102,[.c (.int .i64),.clo 217 [17],.dead,.dead,.dead,.dead,.dead,.dead,.dead,.dead,.dead,.dead,.dead,.dead,.dead,.dead,.dead,.gbox [.slice 13]],[.c (.bool)],[(217,Zy0.S)]⟩
theorem ZmX:Zas.S.Ok Tryz.prog 102:=Zas.ok Tryz.func102 (by kernel_rfl) ⟨ZAx,trivial⟩
noncomputable def Zfb (a:Int) (b:LL):Option (Bool×LL):=Zas.S.g [.i a,.l b]
noncomputable def KS (k:Nat) (a b:Int) (c:LL):Option (Bool×LL):=Zas.lp [0] 0 r0 k [.i a,.i b,.l c]
theorem Za6 (k:Nat) (b a:Int) (c:LL):KS (k+1) b a c =
 (if (cop .lss a b) then
 (ZBP (iop .sub .i64 a 1) a c).bind fun d=>
 if (!d.1) then
 some (false,d.2)
 else
 KS k b (iop .add .i64 a 1) d.2
 else
 some (true,c)):=by kernel_rfl
theorem Zig (a:Int) (b:LL):Zfb a b =
 (KS Zr a 1 b):=by kernel_rfl
noncomputable def Zzm:Fn:=⟨12,[2],[],[],0,[],[],Tryz.f176,[.c (.slice 13)],[.c (.bool)],[(215,Zcg.S),(102,Zas.S)]⟩
theorem ZCv:Zzm.S.Ok Tryz.prog 176:=Zzm.ok Tryz.func176 (by kernel_rfl) ⟨ZoK,⟨ZmX,trivial⟩⟩
noncomputable def ZAt (a:LL):Option (Bool):=Zzm.S.g [.l a]
theorem Zt0 (a:LL):ZAt a =
 ((Ze8 a).bind fun b=>
 if (!b) then
 (Zfb (List.length a:Int) a).bind fun c=>
 some (c.1)
 else
 some (false)):=by kernel_rfl
noncomputable def Zy1:Fn:=⟨6,[2],[],[],0,[],[],Tryz.f177,[.agg [.int .i64,.int .i64,.int .i64]],[.c (.bool)],[(91,F91.S)]⟩
theorem ZAp:Zy1.S.Ok Tryz.prog 177:=Zy1.ok Tryz.func177 (by kernel_rfl) ⟨Zyz,trivial⟩
noncomputable def ZB6 (a b c:Int):Option (Bool):=Zy1.S.g [.i a,.i b,.i c]
theorem ZsD (a b c:Int):ZB6 a b c =
 ((g91 a b c).bind fun d=>
 some ((!d))):=by kernel_rfl
noncomputable def Za8:Fn:=⟨19,[4],[(2,[(0,.c (.slice 3)),(1,.clo 177 []),(7,.c (.int .i64)),(8,.c (.int .i64))])],[],0,[],[],Tryz.f168,[.c (.slice 3),.clo 177 []],[.c (.int .i64)],[(177,Zy1.S)]⟩
theorem ZnM:Za8.S.Ok Tryz.prog 168:=Za8.ok Tryz.func168 (by kernel_rfl) ⟨ZAp,trivial⟩
noncomputable def ZfP (a:LL):Option (Int):=Za8.S.g [.l a]
noncomputable def KJ (k:Nat) (a:LL) (b c:Int):Option (Int):=Za8.lp [0] 0 r0 k [.l a,.i b,.i c]
theorem Za5 (k:Nat) (b:LL) (c a:Int):KJ (k+1) b c a =
 (if (cop .lss a c) then
 Zm b a [.int .i64,.int .i64,.int .i64] fun (d:Int×Int×Int)=>
 (ZB6 d.1 d.2.1 d.2.2).bind fun e=>
 if e then
 some (a)
 else
 KJ k b c (iop .add .i64 a 1)
 else
 some ((-1))):=by kernel_rfl
theorem Zir (a:LL):ZfP a =
 (KJ Zr a (List.length a:Int) 0):=by kernel_rfl
noncomputable def Ze6:Fn:=⟨9,[4],[],[],0,[],[],Tryz.f97,[.c (.slice 3),.clo 177 []],[.c (.bool)],[(168,Za8.S)]⟩
theorem Zqh:Ze6.S.Ok Tryz.prog 97:=Ze6.ok Tryz.func97 (by kernel_rfl) ⟨ZnM,trivial⟩
noncomputable def Zis (a:LL):Option (Bool):=Ze6.S.g [.l a]
theorem Zlm (a:LL):Zis a =
 ((ZfP a).bind fun b=>
 some ((cop .geq b 0))):=by kernel_rfl
noncomputable def Zvo:Fn:=⟨32,[2],[],[],0,[],[],Tryz.f106,[.agg hs30],[.c (.bool)],[(172,Zu5.S),(173,Zyj.S),(174,Zyw.S),(175,Zy3.S),(176,Zzm.S),(97,Ze6.S)]⟩
theorem Zv1:Zvo.S.Ok Tryz.prog 106:=Zvo.ok Tryz.func106 (by kernel_rfl) ⟨ZAX,⟨Zzu,⟨ZBM,⟨ZBV,⟨ZCv,⟨Zqh,trivial⟩⟩⟩⟩⟩⟩
noncomputable def ZxK (a b c d e f:LL):Option (Bool):=Zvo.S.g [.l a,.l b,.l c,.l d,.l e,.l f]
theorem Zts (a b c d e f:LL):ZxK a b c d e f =
 ((ZA1 a).bind fun g=>
 if g then
 (ZBs b).bind fun h=>
 if h then
 (ZzC c).bind fun i=>
 if i then
 (ZzE d).bind fun j=>
 if j then
 (ZAt e).bind fun k=>
 if k then
 (Zis f).bind fun l=>
 some ((!l))
 else
 some (false)
 else
 some (false)
 else
 some (false)
 else
 some (false)
 else
 some (false)):=by kernel_rfl
noncomputable def Zyu:Fn:=⟨26,[2],[],[],0,[],[],Tryz.f104,[.agg hs7],[.c (.bool)],[(34,F34.S),(105,Zuz.S),(106,Zvo.S)]⟩
theorem ZBF:Zyu.S.Ok Tryz.prog 104:=Zyu.ok Tryz.func104 (by kernel_rfl) ⟨ZsE,⟨Zvv,⟨Zv1,trivial⟩⟩⟩
noncomputable def ZCC (a c:Int) (d e f h j k m n:LL) (o:Bool) (p:Int) (q r s t u v w x:LL):Option (Bool):=Zyu.S.g [.i a,.i c,.l d,.l e,.l f,.l h,.l j,.l k,.l m,.l n,.b o,.i p,.l q,.l r,.l s,.l t,.l u,.l v,.l w,.l x]
theorem ZrE (a b:Int) (c d e f g h i j:LL) (t:Bool) (k:Int) (l m n o p q r s:LL):ZCC a b c d e f g h i j t k l m n o p q r s =
 ((g34 a).bind fun u=>
 if u then
 (ZuU b c d).bind fun v=>
 if v then
 (ZxK e f g h i j).bind fun w=>
 if w then
 (ZuU k l m).bind fun x=>
 if x then
 (ZxK n o p q r s).bind fun y=>
 some (y)
 else
 some (false)
 else
 some (false)
 else
 some (false)
 else
 some (false)):=by kernel_rfl
noncomputable def F94:Fn:=⟨6,[2],[],[],0,[],[],Tryz.f94,[.agg hs16],[.c (.bool)],[(95,F95.S)]⟩
theorem ZEF:F94.S.Ok Tryz.prog 94:=F94.ok Tryz.func94 (by kernel_rfl) ⟨ZuI,trivial⟩
noncomputable def g94 (a c d:Int) (e:LL) (f h j k m n:Int) (o:Bool):Option (Bool):=F94.S.g [.i a,.i c,.i d,.l e,.i f,.i h,.i j,.i k,.i m,.i n,.b o]
theorem ZxY (a b c:Int) (d:LL) (e f g h i j:Int) (k:Bool):g94 a b c d e f g h i j k =
 ((g95 a b c d e f g h i j k).bind fun l=>
 some ((!l))):=by kernel_rfl
noncomputable def Zds:Fn:=⟨19,[4],[(2,[(0,.c (.slice 11)),(1,.clo 94 []),(7,.c (.int .i64)),(8,.c (.int .i64))])],[],0,[],[],Tryz.f165,[.c (.slice 11),.clo 94 []],[.c (.int .i64)],[(94,F94.S)]⟩
theorem Zpf:Zds.S.Ok Tryz.prog 165:=Zds.ok Tryz.func165 (by kernel_rfl) ⟨ZEF,trivial⟩
noncomputable def ZiQ (a:LL):Option (Int):=Zds.S.g [.l a]
noncomputable def Vu (k:Nat) (a:LL) (b c:Int):Option (Int):=Zds.lp [0] 0 r0 k [.l a,.i b,.i c]
theorem ZbL (k:Nat) (c:LL) (d b:Int):Vu (k+1) c d b =
 (if (cop .lss b d) then
 Zm c b hs16 fun (a:Qt31)=>
 (g94 a.1 a.2.1 a.2.2.1 a.2.2.2.1 a.2.2.2.2.1 a.2.2.2.2.2.1 a.2.2.2.2.2.2.1 a.2.2.2.2.2.2.2.1 a.2.2.2.2.2.2.2.2.1 a.2.2.2.2.2.2.2.2.2.1 a.2.2.2.2.2.2.2.2.2.2).bind fun e=>
 if e then
 some (b)
 else
 Vu k c d (iop .add .i64 b 1)
 else
 some ((-1))):=by kernel_rfl
theorem ZlG (a:LL):ZiQ a =
 (Vu Zr a (List.length a:Int) 0):=by kernel_rfl
noncomputable def Zj6:Fn:=⟨9,[4],[],[],0,[],[],Tryz.f93,[.c (.slice 11),.clo 94 []],[.c (.bool)],[(165,Zds.S)]⟩
theorem ZrA:Zj6.S.Ok Tryz.prog 93:=Zj6.ok Tryz.func93 (by kernel_rfl) ⟨Zpf,trivial⟩
noncomputable def ZeQ (a:LL):Option (Bool):=Zj6.S.g [.l a]
theorem Zor (a:LL):ZeQ a =
 ((ZiQ a).bind fun b=>
 some ((cop .geq b 0))):=by kernel_rfl
noncomputable def F98:Fn:=⟨6,[2],[],[],0,[],[],Tryz.f98,[.agg [.int .i64,.int .i64,.int .i64]],[.c (.bool)],[(99,F99.S)]⟩
theorem ZFd:F98.S.Ok Tryz.prog 98:=F98.ok Tryz.func98 (by kernel_rfl) ⟨ZyR,trivial⟩
noncomputable def g98 (a b c:Int):Option (Bool):=F98.S.g [.i a,.i b,.i c]
theorem Zvj (a b c:Int):g98 a b c =
 ((g99 a b c).bind fun d=>
 some ((!d))):=by kernel_rfl
noncomputable def Zdl:Fn:=⟨19,[4],[(2,[(0,.c (.slice 3)),(1,.clo 98 []),(7,.c (.int .i64)),(8,.c (.int .i64))])],[],0,[],[],Tryz.f168,[.c (.slice 3),.clo 98 []],[.c (.int .i64)],[(98,F98.S)]⟩
theorem Zqd:Zdl.S.Ok Tryz.prog 168:=Zdl.ok Tryz.func168 (by kernel_rfl) ⟨ZFd,trivial⟩
noncomputable def ZiT (a:LL):Option (Int):=Zdl.S.g [.l a]
noncomputable def Vo (k:Nat) (a:LL) (b c:Int):Option (Int):=Zdl.lp [0] 0 r0 k [.l a,.i b,.i c]
theorem ZbT (k:Nat) (b:LL) (c a:Int):Vo (k+1) b c a =
 (if (cop .lss a c) then
 Zm b a [.int .i64,.int .i64,.int .i64] fun (d:Int×Int×Int)=>
 (g98 d.1 d.2.1 d.2.2).bind fun e=>
 if e then
 some (a)
 else
 Vo k b c (iop .add .i64 a 1)
 else
 some ((-1))):=by kernel_rfl
theorem Zlw (a:LL):ZiT a =
 (Vo Zr a (List.length a:Int) 0):=by kernel_rfl
noncomputable def Zkz:Fn:=⟨9,[4],[],[],0,[],[],Tryz.f97,[.c (.slice 3),.clo 98 []],[.c (.bool)],[(168,Zdl.S)]⟩
theorem Zsv:Zkz.S.Ok Tryz.prog 97:=Zkz.ok Tryz.func97 (by kernel_rfl) ⟨Zqd,trivial⟩
noncomputable def Zkg (a:LL):Option (Bool):=Zkz.S.g [.l a]
theorem Zog (a:LL):Zkg a =
 ((ZiT a).bind fun b=>
 some ((cop .geq b 0))):=by kernel_rfl
noncomputable def Zze:Fn:=⟨6,[2],[],[],0,[],[],Tryz.f101,[.c (.int .i64)],[.c (.bool)],[(34,F34.S)]⟩
theorem ZAl:Zze.S.Ok Tryz.prog 101:=Zze.ok Tryz.func101 (by kernel_rfl) ⟨ZsE,trivial⟩
noncomputable def ZzU (a:Int):Option (Bool):=Zze.S.g [.i a]
theorem Zst (a:Int):ZzU a =
 ((g34 a).bind fun b=>
 some ((!b))):=by kernel_rfl
noncomputable def ZaY:Fn:=⟨19,[4],[(2,[(0,.c (.slice 1)),(1,.clo 101 []),(7,.c (.int .i64)),(8,.c (.int .i64))])],[],0,[],[],Tryz.f169,[.c (.slice 1),.clo 101 []],[.c (.int .i64)],[(101,Zze.S)]⟩
theorem ZmZ:ZaY.S.Ok Tryz.prog 169:=ZaY.ok Tryz.func169 (by kernel_rfl) ⟨ZAl,trivial⟩
noncomputable def ZfK (a:LL):Option (Int):=ZaY.S.g [.l a]
noncomputable def KT (k:Nat) (a:LL) (b c:Int):Option (Int):=ZaY.lp [0] 0 r0 k [.l a,.i b,.i c]
theorem Za1 (k:Nat) (b:LL) (c a:Int):KT (k+1) b c a =
 (if (cop .lss a c) then
 Zm b a [.int .i64] fun (d:Int)=>
 (ZzU d).bind fun e=>
 if e then
 some (a)
 else
 KT k b c (iop .add .i64 a 1)
 else
 some ((-1))):=by kernel_rfl
theorem Zjp (a:LL):ZfK a =
 (KT Zr a (List.length a:Int) 0):=by kernel_rfl
noncomputable def Zcq:Fn:=⟨9,[4],[],[],0,[],[],Tryz.f100,[.c (.slice 1),.clo 101 []],[.c (.bool)],[(169,ZaY.S)]⟩
theorem Zn8:Zcq.S.Ok Tryz.prog 100:=Zcq.ok Tryz.func100 (by kernel_rfl) ⟨ZmZ,trivial⟩
noncomputable def Zcb (a:LL):Option (Bool):=Zcq.S.g [.l a]
theorem Zjm (a:LL):Zcb a =
 ((ZfK a).bind fun b=>
 some ((cop .geq b 0))):=by kernel_rfl
noncomputable def Zyi:Fn:=⟨17,[5],[],[2],0,[],[],Tryz.f103,[.c (.int .i64),.c (.int .i64),.box hs0],[.c (.bool)],[]⟩
theorem ZCJ:Zyi.S.Ok Tryz.prog 103:=Zyi.ok Tryz.func103 (by kernel_rfl) trivial
noncomputable def ZAo (a c d e f h j k m n o p q:Int) (r:Bool) (s t u v w x y z A C D E G H J K L M N O:Int) (P:LL) (Q R T U V W:Int) (X:Bool) (Y Z aa ab:LL) (ac ad:Int) (ae af ag ah ai aj ak al:LL) (am an:Int) (ao ap aq ar aZ au av aw:LL) (ax:Bool) (ay:Int) (az a0 a1 a2 a3 a4 a5 a6:LL):Option (Qt3):=Zyi.S.g [.i a,.i c,.i d,.i e,.i f,.i h,.i j,.i k,.i m,.i n,.i o,.i p,.i q,.b r,.i s,.i t,.i u,.i v,.i w,.i x,.i y,.i z,.i A,.i C,.i D,.i E,.i G,.i H,.i J,.i K,.i L,.i M,.i N,.i O,.l P,.i Q,.i R,.i T,.i U,.i V,.i W,.b X,.l Y,.l Z,.l aa,.l ab,.i ac,.i ad,.l ae,.l af,.l ag,.l ah,.l ai,.l aj,.l ak,.l al,.i am,.i an,.l ao,.l ap,.l aq,.l ar,.l aZ,.l au,.l av,.l aw,.b ax,.i ay,.l az,.l a0,.l a1,.l a2,.l a3,.l a4,.l a5,.l a6]
theorem Zr8 (b c d e f g h i j k l m n:Int) (o:Bool) (p q r s t u v w x y z A C D E G H J K L:Int) (M:LL) (N O P Q R T:Int) (U:Bool) (V W a X:LL) (Y Z:Int) (aa ab ac ad ae af ag ah:LL) (ai aj:Int) (ak al am an ao ap aq ar:LL) (aZ:Bool) (au:Int) (av aw ax ay az a0 a1 a2:LL):ZAo b c d e f g h i j k l m n o p q r s t u v w x y z A C D E G H J K L M N O P Q R T U V W a X Y Z aa ab ac ad ae af ag ah ai aj ak al am an ao ap aq ar aZ au av aw ax ay az a0 a1 a2 =
 (Zm a b [.int .i64] fun (a3:Int)=>
 Zm a c [.int .i64] fun (a4:Int)=>
 some ((cop .lss a3 a4),d,e,f,g,h,i,j,k,l,m,n,o,p,q,r,s,t,u,v,w,x,y,z,A,C,D,E,G,H,J,K,L,M,N,O,P,Q,R,T,U,V,W,a,X,Y,Z,aa,ab,ac,ad,ae,af,ag,ah,ai,aj,ak,al,am,an,ao,ap,aq,ar,aZ,au,av,aw,ax,ay,az,a0,a1,a2)):=by kernel_rfl
noncomputable def Za4:Fn:=⟨17,[4],[(2,[(0,.c (.int .i64)),(1,.clo 103 [17]),(5,.c (.int .i64)),(17,.gbox hs0)])],[],1,[],[],Tryz.f102,[.c (.int .i64),.clo 103 [17],.dead,.dead,.dead,.dead,.dead,.dead,.dead,.dead,.dead,.dead,.dead,.dead,.dead,.dead,.dead,.gbox hs0],[.c (.bool)],[(103,Zyi.S)]⟩
theorem ZnI:Za4.S.Ok Tryz.prog 102:=Za4.ok Tryz.func102 (by kernel_rfl) ⟨ZCJ,trivial⟩
noncomputable def Zcs (a c d e f h j k m n o p:Int) (q:Bool) (r s t u v w x y z A C D E G H J K L M N:Int) (O:LL) (P Q R T U V:Int) (W:Bool) (X Y Z aa:LL) (ab ac:Int) (ad ae af ag ah ai aj ak:LL) (al am:Int) (an ao ap aq ar aZ au av:LL) (aw:Bool) (ax:Int) (ay az a0 a1 a2 a3 a4 a5:LL):Option (Qt3):=Za4.S.g [.i a,.i c,.i d,.i e,.i f,.i h,.i j,.i k,.i m,.i n,.i o,.i p,.b q,.i r,.i s,.i t,.i u,.i v,.i w,.i x,.i y,.i z,.i A,.i C,.i D,.i E,.i G,.i H,.i J,.i K,.i L,.i M,.i N,.l O,.i P,.i Q,.i R,.i T,.i U,.i V,.b W,.l X,.l Y,.l Z,.l aa,.i ab,.i ac,.l ad,.l ae,.l af,.l ag,.l ah,.l ai,.l aj,.l ak,.i al,.i am,.l an,.l ao,.l ap,.l aq,.l ar,.l aZ,.l au,.l av,.b aw,.i ax,.l ay,.l az,.l a0,.l a1,.l a2,.l a3,.l a4,.l a5]
noncomputable def Wt (k:Nat) (a c d e f g h j m n o p q:Int) (r:Bool) (s t u v w x y z A C D E G H J K L M N O:Int) (P:LL) (Q R T U V W:Int) (X:Bool) (Y Z aa ab:LL) (ac ad:Int) (ae af ag ah ai aj ak al:LL) (am an:Int) (ao ap aq ar aZ au av aw:LL) (ax:Bool) (ay:Int) (az a0 a1 a2 a3 a4 a5 a6:LL):Option (Qt3):=Za4.lp [0] 0 r0 k [.i a,.i c,.i d,.i e,.i f,.i g,.i h,.i j,.i m,.i n,.i o,.i p,.i q,.b r,.i s,.i t,.i u,.i v,.i w,.i x,.i y,.i z,.i A,.i C,.i D,.i E,.i G,.i H,.i J,.i K,.i L,.i M,.i N,.i O,.l P,.i Q,.i R,.i T,.i U,.i V,.i W,.b X,.l Y,.l Z,.l aa,.l ab,.i ac,.i ad,.l ae,.l af,.l ag,.l ah,.l ai,.l aj,.l ak,.l al,.i am,.i an,.l ao,.l ap,.l aq,.l ar,.l aZ,.l au,.l av,.l aw,.b ax,.i ay,.l az,.l a0,.l a1,.l a2,.l a3,.l a4,.l a5,.l a6]
theorem Zbd (k:Nat) (c b d e f g h i j l m n o:Int) (p:Bool) (q r s t u v w x y z A C D E G H J K L M:Int) (N:LL) (O P Q R T U:Int) (V:Bool) (W X Y Z:LL) (aa ab:Int) (ac ad ae af ag ah ai aj:LL) (ak al:Int) (am an ao ap aq ar aZ au:LL) (av:Bool) (aw:Int) (ax ay az a0 a1 a2 a3 a4:LL):Wt (k+1) c b d e f g h i j l m n o p q r s t u v w x y z A C D E G H J K L M N O P Q R T U V W X Y Z aa ab ac ad ae af ag ah ai aj ak al am an ao ap aq ar aZ au av aw ax ay az a0 a1 a2 a3 a4 =
 (if (cop .lss b c) then
 (ZAo (iop .sub .i64 b 1) b d e f g h i j l m n o p q r s t u v w x y z A C D E G H J K L M N O P Q R T U V W X Y Z aa ab ac ad ae af ag ah ai aj ak al am an ao ap aq ar aZ au av aw ax ay az a0 a1 a2 a3 a4).bind fun a=>
 if (!a.1) then
 some (false,a.2.1,a.2.2.1,a.2.2.2.1,a.2.2.2.2.1,a.2.2.2.2.2.1,a.2.2.2.2.2.2.1,a.2.2.2.2.2.2.2.1,a.2.2.2.2.2.2.2.2.1,a.2.2.2.2.2.2.2.2.2.1,a.2.2.2.2.2.2.2.2.2.2.1,a.2.2.2.2.2.2.2.2.2.2.2.1,(d4 (d8 a)).1,(d4 (d8 a)).2.1,(d2 (d4 (d8 a))).1,(d2 (d4 (d8 a))).2.1,(d16 a).1,(d16 a).2.1,(d2 (d16 a)).1,(d2 (d16 a)).2.1,(d4 (d16 a)).1,(d4 (d16 a)).2.1,(d2 (d4 (d16 a))).1,(d2 (d4 (d16 a))).2.1,(d8 (d16 a)).1,(d8 (d16 a)).2.1,(d2 (d8 (d16 a))).1,(d2 (d8 (d16 a))).2.1,(d4 (d8 (d16 a))).1,(d4 (d8 (d16 a))).2.1,(d2 (d4 (d8 (d16 a)))).1,(d2 (d4 (d8 (d16 a)))).2.1,(d16 (d16 a)).1,(d16 (d16 a)).2.1,(d2 (d16 (d16 a))).1,(d2 (d16 (d16 a))).2.1,(d4 (d16 (d16 a))).1,(d4 (d16 (d16 a))).2.1,(d2 (d4 (d16 (d16 a)))).1,(d2 (d4 (d16 (d16 a)))).2.1,(d8 (d16 (d16 a))).1,(d8 (d16 (d16 a))).2.1,(d2 (d8 (d16 (d16 a)))).1,(d2 (d8 (d16 (d16 a)))).2.1,(d4 (d8 (d16 (d16 a)))).1,(d4 (d8 (d16 (d16 a)))).2.1,(d2 (d4 (d8 (d16 (d16 a))))).1,(d2 (d4 (d8 (d16 (d16 a))))).2.1,(d16 (d16 (d16 a))).1,(d16 (d16 (d16 a))).2.1,(d2 (d16 (d16 (d16 a)))).1,(d2 (d16 (d16 (d16 a)))).2.1,(d4 (d16 (d16 (d16 a)))).1,(d4 (d16 (d16 (d16 a)))).2.1,(d2 (d4 (d16 (d16 (d16 a))))).1,(d2 (d4 (d16 (d16 (d16 a))))).2.1,(d8 (d16 (d16 (d16 a)))).1,(d8 (d16 (d16 (d16 a)))).2.1,(d2 (d8 (d16 (d16 (d16 a))))).1,(d2 (d8 (d16 (d16 (d16 a))))).2.1,(d4 (d8 (d16 (d16 (d16 a))))).1,(d4 (d8 (d16 (d16 (d16 a))))).2.1,(d2 (d4 (d8 (d16 (d16 (d16 a)))))).1,(d2 (d4 (d8 (d16 (d16 (d16 a)))))).2.1,(d16 (d16 (d16 (d16 a)))).1,(d16 (d16 (d16 (d16 a)))).2.1,(d2 (d16 (d16 (d16 (d16 a))))).1,(d2 (d16 (d16 (d16 (d16 a))))).2.1,(d4 (d16 (d16 (d16 (d16 a))))).1,(d4 (d16 (d16 (d16 (d16 a))))).2.1,(d2 (d4 (d16 (d16 (d16 (d16 a)))))).1,(d2 (d4 (d16 (d16 (d16 (d16 a)))))).2.1,(d8 (d16 (d16 (d16 (d16 a))))).1,(d8 (d16 (d16 (d16 (d16 a))))).2.1,(d2 (d8 (d16 (d16 (d16 (d16 a)))))))
 else
 Wt k c (iop .add .i64 b 1) a.2.1 a.2.2.1 a.2.2.2.1 a.2.2.2.2.1 a.2.2.2.2.2.1 a.2.2.2.2.2.2.1 a.2.2.2.2.2.2.2.1 a.2.2.2.2.2.2.2.2.1 a.2.2.2.2.2.2.2.2.2.1 a.2.2.2.2.2.2.2.2.2.2.1 a.2.2.2.2.2.2.2.2.2.2.2.1 (d4 (d8 a)).1 (d4 (d8 a)).2.1 (d2 (d4 (d8 a))).1 (d2 (d4 (d8 a))).2.1 (d16 a).1 (d16 a).2.1 (d2 (d16 a)).1 (d2 (d16 a)).2.1 (d4 (d16 a)).1 (d4 (d16 a)).2.1 (d2 (d4 (d16 a))).1 (d2 (d4 (d16 a))).2.1 (d8 (d16 a)).1 (d8 (d16 a)).2.1 (d2 (d8 (d16 a))).1 (d2 (d8 (d16 a))).2.1 (d4 (d8 (d16 a))).1 (d4 (d8 (d16 a))).2.1 (d2 (d4 (d8 (d16 a)))).1 (d2 (d4 (d8 (d16 a)))).2.1 (d16 (d16 a)).1 (d16 (d16 a)).2.1 (d2 (d16 (d16 a))).1 (d2 (d16 (d16 a))).2.1 (d4 (d16 (d16 a))).1 (d4 (d16 (d16 a))).2.1 (d2 (d4 (d16 (d16 a)))).1 (d2 (d4 (d16 (d16 a)))).2.1 (d8 (d16 (d16 a))).1 (d8 (d16 (d16 a))).2.1 (d2 (d8 (d16 (d16 a)))).1 (d2 (d8 (d16 (d16 a)))).2.1 (d4 (d8 (d16 (d16 a)))).1 (d4 (d8 (d16 (d16 a)))).2.1 (d2 (d4 (d8 (d16 (d16 a))))).1 (d2 (d4 (d8 (d16 (d16 a))))).2.1 (d16 (d16 (d16 a))).1 (d16 (d16 (d16 a))).2.1 (d2 (d16 (d16 (d16 a)))).1 (d2 (d16 (d16 (d16 a)))).2.1 (d4 (d16 (d16 (d16 a)))).1 (d4 (d16 (d16 (d16 a)))).2.1 (d2 (d4 (d16 (d16 (d16 a))))).1 (d2 (d4 (d16 (d16 (d16 a))))).2.1 (d8 (d16 (d16 (d16 a)))).1 (d8 (d16 (d16 (d16 a)))).2.1 (d2 (d8 (d16 (d16 (d16 a))))).1 (d2 (d8 (d16 (d16 (d16 a))))).2.1 (d4 (d8 (d16 (d16 (d16 a))))).1 (d4 (d8 (d16 (d16 (d16 a))))).2.1 (d2 (d4 (d8 (d16 (d16 (d16 a)))))).1 (d2 (d4 (d8 (d16 (d16 (d16 a)))))).2.1 (d16 (d16 (d16 (d16 a)))).1 (d16 (d16 (d16 (d16 a)))).2.1 (d2 (d16 (d16 (d16 (d16 a))))).1 (d2 (d16 (d16 (d16 (d16 a))))).2.1 (d4 (d16 (d16 (d16 (d16 a))))).1 (d4 (d16 (d16 (d16 (d16 a))))).2.1 (d2 (d4 (d16 (d16 (d16 (d16 a)))))).1 (d2 (d4 (d16 (d16 (d16 (d16 a)))))).2.1 (d8 (d16 (d16 (d16 (d16 a))))).1 (d8 (d16 (d16 (d16 (d16 a))))).2.1 (d2 (d8 (d16 (d16 (d16 (d16 a))))))
 else
 some (true,d,e,f,g,h,i,j,l,m,n,o,p,q,r,s,t,u,v,w,x,y,z,A,C,D,E,G,H,J,K,L,M,N,O,P,Q,R,T,U,V,W,X,Y,Z,aa,ab,ac,ad,ae,af,ag,ah,ai,aj,ak,al,am,an,ao,ap,aq,ar,aZ,au,av,aw,ax,ay,az,a0,a1,a2,a3,a4)):=by kernel_rfl
theorem ZiH (a b c d e f g h i j k l:Int) (m:Bool) (n o p q r s t u v w x y z A C D E G H J:Int) (K:LL) (L M N O P Q:Int) (R:Bool) (T U V W:LL) (X Y:Int) (Z aa ab ac ad ae af ag:LL) (ah ai:Int) (aj ak al am an ao ap aq:LL) (ar:Bool) (aZ:Int) (au av aw ax ay az a0 a1:LL):Zcs a b c d e f g h i j k l m n o p q r s t u v w x y z A C D E G H J K L M N O P Q R T U V W X Y Z aa ab ac ad ae af ag ah ai aj ak al am an ao ap aq ar aZ au av aw ax ay az a0 a1 =
 (Wt Zr a 1 b c d e f g h i j k l m n o p q r s t u v w x y z A C D E G H J K L M N O P Q R T U V W X Y Z aa ab ac ad ae af ag ah ai aj ak al am an ao ap aq ar aZ au av aw ax ay az a0 a1):=by kernel_rfl
noncomputable def Zzg:Fn:=⟨13,[2],[],[],0,[],[],Tryz.f108,[.agg [.int .i64,.int .i64]],[.c (.bool)],[(89,F89.S),(34,F34.S)]⟩
theorem ZCI:Zzg.S.Ok Tryz.prog 108:=Zzg.ok Tryz.func108 (by kernel_rfl) ⟨ZyY,⟨ZsE,trivial⟩⟩
noncomputable def ZBt (a b:Int):Option (Bool):=Zzg.S.g [.i a,.i b]
theorem ZtE (a b:Int):ZBt a b =
 ((g89 a).bind fun c=>
 if (!c) then
 some (true)
 else
 (g34 b).bind fun d=>
 some ((!d))):=by kernel_rfl
noncomputable def ZaE:Fn:=⟨19,[4],[(2,[(0,.c (.slice 2)),(1,.clo 108 []),(7,.c (.int .i64)),(8,.c (.int .i64))])],[],0,[],[],Tryz.f178,[.c (.slice 2),.clo 108 []],[.c (.int .i64)],[(108,Zzg.S)]⟩
theorem ZmS:ZaE.S.Ok Tryz.prog 178:=ZaE.ok Tryz.func178 (by kernel_rfl) ⟨ZCI,trivial⟩
noncomputable def Zfz (a:LL):Option (Int):=ZaE.S.g [.l a]
noncomputable def KD (k:Nat) (a:LL) (b c:Int):Option (Int):=ZaE.lp [0] 0 r0 k [.l a,.i b,.i c]
theorem Zam (k:Nat) (b:LL) (c a:Int):KD (k+1) b c a =
 (if (cop .lss a c) then
 Zm b a [.int .i64,.int .i64] fun (d:Int×Int)=>
 (ZBt d.1 d.2).bind fun e=>
 if e then
 some (a)
 else
 KD k b c (iop .add .i64 a 1)
 else
 some ((-1))):=by kernel_rfl
theorem Zi7 (a:LL):Zfz a =
 (KD Zr a (List.length a:Int) 0):=by kernel_rfl
noncomputable def Zcf:Fn:=⟨9,[4],[],[],0,[],[],Tryz.f107,[.c (.slice 2),.clo 108 []],[.c (.bool)],[(178,ZaE.S)]⟩
theorem Zn2:Zcf.S.Ok Tryz.prog 107:=Zcf.ok Tryz.func107 (by kernel_rfl) ⟨ZmS,trivial⟩
noncomputable def Zcn (a:LL):Option (Bool):=Zcf.S.g [.l a]
theorem Zim (a:LL):Zcn a =
 ((Zfz a).bind fun b=>
 some ((cop .geq b 0))):=by kernel_rfl
noncomputable def F35:Fn:=⟨114,[4],[],[],0,[],[],Tryz.f35,[.agg hs0,.c (.int .i64)],[.c (.bool)],[(89,F89.S),(90,F90.S),(91,F91.S),(92,F92.S),(93,Zj6.S),(96,F96.S),(97,Zkz.S),(33,F33.S),(100,Zcq.S),(102,Za4.S),(104,Zyu.S),(105,Zuz.S),(106,Zvo.S),(107,Zcf.S)]⟩
theorem ZEx:F35.S.Ok Tryz.prog 35:=F35.ok Tryz.func35 (by kernel_rfl) ⟨ZyY,⟨ZCU,⟨Zyz,⟨ZCT,⟨ZrA,⟨ZDc,⟨Zsv,⟨Zzw,⟨Zn8,⟨ZnI,⟨ZBF,⟨Zvv,⟨Zv1,⟨Zn2,trivial⟩⟩⟩⟩⟩⟩⟩⟩⟩⟩⟩⟩⟩⟩
noncomputable def g35 (a c d e f h j k m n o:Int) (p:Bool) (q r s t u v w x y z A C D E G H J K L M:Int) (N:LL) (O P Q R T U:Int) (V:Bool) (W X Y Z:LL) (aa ab:Int) (ac ad ae af ag ah ai aj:LL) (ak al:Int) (am an ao ap aq ar aZ au:LL) (av:Bool) (aw:Int) (ax ay az a0 a1 a2 a3 a4:LL) (a5:Int):Option (Bool):=F35.S.g [.i a,.i c,.i d,.i e,.i f,.i h,.i j,.i k,.i m,.i n,.i o,.b p,.i q,.i r,.i s,.i t,.i u,.i v,.i w,.i x,.i y,.i z,.i A,.i C,.i D,.i E,.i G,.i H,.i J,.i K,.i L,.i M,.l N,.i O,.i P,.i Q,.i R,.i T,.i U,.b V,.l W,.l X,.l Y,.l Z,.i aa,.i ab,.l ac,.l ad,.l ae,.l af,.l ag,.l ah,.l ai,.l aj,.i ak,.i al,.l am,.l an,.l ao,.l ap,.l aq,.l ar,.l aZ,.l au,.b av,.i aw,.l ax,.l ay,.l az,.l a0,.l a1,.l a2,.l a3,.l a4,.i a5]
theorem KY (g x1 x2 x3 h i j k l m n:Int) (a2:Bool) (o p q r s t u v w x y z A C D E G H J K:Int) (L:LL) (M N O P Q R:Int) (T:Bool) (d c e f:LL) (U V:Int) (W X Y Z aa ab ac ad:LL) (ae af:Int) (ag ah ai aj ak al am an:LL) (ao:Bool) (ap:Int) (aq ar aZ au av aw ax ay:LL) (b:Int):g35 g x1 x2 x3 h i j k l m n a2 o p q r s t u v w x y z A C D E G H J K L M N O P Q R T d c e f U V W X Y Z aa ab ac ad ae af ag ah ai aj ak al am an ao ap aq ar aZ au av aw ax ay b =
 (if (cop .eql b 0) then
 (g89 i).bind fun a=>
 some (a)
 else
 if (cop .eql b 1) then
 (g90 o p q r s t u v w x y z A C D E G H J K L M N O P Q R T).bind fun a=>
 some (a)
 else
 if (cop .eql b 2) then
 (g91 k l m).bind fun a=>
 some (a)
 else
 if (cop .eql b 3) then
 (g92 n).bind fun a=>
 some (a)
 else
 if (cop .eql b 5) then
 if (cop .gtr (List.length c:Int) 8) then
 some (false)
 else
 if (cop .eql g 4) then
 if (cop .neq (List.length c:Int) 1) then
 some (false)
 else
 (ZeQ c).bind fun a=>
 some ((!a))
 else
 (ZeQ c).bind fun a=>
 some ((!a))
 else
 if (cop .eql b 6) then
 (g96 j).bind fun a=>
 some (a)
 else
 if (cop .eql b 7) then
 if (cop .leq (List.length d:Int) 64) then
 (Zkg d).bind fun a=>
 some ((!a))
 else
 some (false)
 else
 if (cop .eql b 8) then
 (g33 h).bind fun a=>
 some (a)
 else
 if (cop .eql b 9) then
 (Zcb e).bind fun a=>
 if (!a) then
 (Zcs (List.length e:Int) g x1 x2 x3 h i j k l m n a2 o p q r s t u v w x y z A C D E G H J K L M N O P Q R T d c e f U V W X Y Z aa ab ac ad ae af ag ah ai aj ak al am an ao ap aq ar aZ au av aw ax ay).bind fun a3=>
 some (a3.1)
 else
 some (false)
 else
 if (cop .eql b 10) then
 (ZCC ae af ag ah ai aj ak al am an ao ap aq ar aZ au av aw ax ay).bind fun a=>
 some (a)
 else
 if (cop .eql b 11) then
 (g33 U).bind fun a=>
 some (a)
 else
 if (cop .eql b 12) then
 (ZuU V W X).bind fun a=>
 some (a)
 else
 if (cop .eql b 13) then
 (ZxK Y Z aa ab ac ad).bind fun a=>
 some (a)
 else
 if (cop .eql b 14) then
 if (cop .leq (List.length f:Int) 16) then
 (Zcn f).bind fun a=>
 some ((!a))
 else
 some (false)
 else
 some (true)):=by kernel_rfl
noncomputable def F36:Fn:=⟨85,[],[],[0],0,[],[],Tryz.f36,[.box hs0,.c (.int .i64)],[],[]⟩
theorem ZFg:F36.S.Ok Tryz.prog 36:=F36.ok Tryz.func36 (by kernel_rfl) trivial
noncomputable def g36 (a c d e f h j k m n o:Int) (p:Bool) (q r s t u v w x y z A C D E G H J K L M:Int) (N:LL) (O P Q R T U:Int) (V:Bool) (W X Y Z:LL) (aa ab:Int) (ac ad ae af ag ah ai aj:LL) (ak al:Int) (am an ao ap aq ar aZ au:LL) (av:Bool) (aw:Int) (ax ay az a0 a1 a2 a3 a4:LL) (a5:Int):Option (Qt5):=F36.S.g [.i a,.i c,.i d,.i e,.i f,.i h,.i j,.i k,.i m,.i n,.i o,.b p,.i q,.i r,.i s,.i t,.i u,.i v,.i w,.i x,.i y,.i z,.i A,.i C,.i D,.i E,.i G,.i H,.i J,.i K,.i L,.i M,.l N,.i O,.i P,.i Q,.i R,.i T,.i U,.b V,.l W,.l X,.l Y,.l Z,.i aa,.i ab,.l ac,.l ad,.l ae,.l af,.l ag,.l ah,.l ai,.l aj,.i ak,.i al,.l am,.l an,.l ao,.l ap,.l aq,.l ar,.l aZ,.l au,.b av,.i aw,.l ax,.l ay,.l az,.l a0,.l a1,.l a2,.l a3,.l a4,.i a5]
theorem K0 (a b c d e f g h i j k:Int) (l:Bool) (m n o p q r s t u v w x y z A C D E G H:Int) (J:LL) (K L M N O P:Int) (Q:Bool) (R T U V:LL) (W X:Int) (Y Z aa ab ac ad ae af:LL) (ag ah:Int) (ai aj ak al am an ao ap:LL) (aq:Bool) (ar:Int) (aZ au av aw ax ay az a0:LL) (a1:Int):g36 a b c d e f g h i j k l m n o p q r s t u v w x y z A C D E G H J K L M N O P Q R T U V W X Y Z aa ab ac ad ae af ag ah ai aj ak al am an ao ap aq ar aZ au av aw ax ay az a0 a1 =
 (if (cop .eql a1 0) then
 some (a,b,c,d,e,0,g,h,i,j,k,l,m,n,o,p,q,r,s,t,u,v,w,x,y,z,A,C,D,E,G,H,J,K,L,M,N,O,P,Q,R,T,U,V,W,X,Y,Z,aa,ab,ac,ad,ae,af,ag,ah,ai,aj,ak,al,am,an,ao,ap,aq,ar,aZ,au,av,aw,ax,ay,az,a0)
 else
 if (cop .eql a1 1) then
 some (a,b,c,d,e,f,g,h,i,j,k,l,0,0,0,0,0,0,0,0,0,0,0,0,0,0,0,0,0,0,0,0,E0,0,0,0,0,0,0,false,R,T,U,V,W,X,Y,Z,aa,ab,ac,ad,ae,af,ag,ah,ai,aj,ak,al,am,an,ao,ap,aq,ar,aZ,au,av,aw,ax,ay,az,a0)
 else
 if (cop .eql a1 2) then
 some (a,b,c,d,e,f,g,0,0,0,k,l,m,n,o,p,q,r,s,t,u,v,w,x,y,z,A,C,D,E,G,H,J,K,L,M,N,O,P,Q,R,T,U,V,W,X,Y,Z,aa,ab,ac,ad,ae,af,ag,ah,ai,aj,ak,al,am,an,ao,ap,aq,ar,aZ,au,av,aw,ax,ay,az,a0)
 else
 if (cop .eql a1 3) then
 some (a,b,c,d,e,f,g,h,i,j,0,l,m,n,o,p,q,r,s,t,u,v,w,x,y,z,A,C,D,E,G,H,J,K,L,M,N,O,P,Q,R,T,U,V,W,X,Y,Z,aa,ab,ac,ad,ae,af,ag,ah,ai,aj,ak,al,am,an,ao,ap,aq,ar,aZ,au,av,aw,ax,ay,az,a0)
 else
 if (cop .eql a1 4) then
 some (a,b,c,d,e,f,g,h,i,j,k,false,m,n,o,p,q,r,s,t,u,v,w,x,y,z,A,C,D,E,G,H,J,K,L,M,N,O,P,Q,R,T,U,V,W,X,Y,Z,aa,ab,ac,ad,ae,af,ag,ah,ai,aj,ak,al,am,an,ao,ap,aq,ar,aZ,au,av,aw,ax,ay,az,a0)
 else
 if (cop .eql a1 5) then
 some (a,b,c,d,e,f,g,h,i,j,k,l,m,n,o,p,q,r,s,t,u,v,w,x,y,z,A,C,D,E,G,H,J,K,L,M,N,O,P,Q,R,E0,U,V,W,X,Y,Z,aa,ab,ac,ad,ae,af,ag,ah,ai,aj,ak,al,am,an,ao,ap,aq,ar,aZ,au,av,aw,ax,ay,az,a0)
 else
 if (cop .eql a1 6) then
 some (a,b,c,d,e,f,0,h,i,j,k,l,m,n,o,p,q,r,s,t,u,v,w,x,y,z,A,C,D,E,G,H,J,K,L,M,N,O,P,Q,R,T,U,V,W,X,Y,Z,aa,ab,ac,ad,ae,af,ag,ah,ai,aj,ak,al,am,an,ao,ap,aq,ar,aZ,au,av,aw,ax,ay,az,a0)
 else
 if (cop .eql a1 7) then
 some (a,b,c,d,e,f,g,h,i,j,k,l,m,n,o,p,q,r,s,t,u,v,w,x,y,z,A,C,D,E,G,H,J,K,L,M,N,O,P,Q,E0,T,U,V,W,X,Y,Z,aa,ab,ac,ad,ae,af,ag,ah,ai,aj,ak,al,am,an,ao,ap,aq,ar,aZ,au,av,aw,ax,ay,az,a0)
 else
 if (cop .eql a1 8) then
 some (a,b,c,d,0,f,g,h,i,j,k,l,m,n,o,p,q,r,s,t,u,v,w,x,y,z,A,C,D,E,G,H,J,K,L,M,N,O,P,Q,R,T,U,V,W,X,Y,Z,aa,ab,ac,ad,ae,af,ag,ah,ai,aj,ak,al,am,an,ao,ap,aq,ar,aZ,au,av,aw,ax,ay,az,a0)
 else
 if (cop .eql a1 9) then
 some (a,b,c,d,e,f,g,h,i,j,k,l,m,n,o,p,q,r,s,t,u,v,w,x,y,z,A,C,D,E,G,H,J,K,L,M,N,O,P,Q,R,T,E0,V,W,X,Y,Z,aa,ab,ac,ad,ae,af,ag,ah,ai,aj,ak,al,am,an,ao,ap,aq,ar,aZ,au,av,aw,ax,ay,az,a0)
 else
 if (cop .eql a1 10) then
 some (a,b,c,d,e,f,g,h,i,j,k,l,m,n,o,p,q,r,s,t,u,v,w,x,y,z,A,C,D,E,G,H,J,K,L,M,N,O,P,Q,R,T,U,V,W,X,Y,Z,aa,ab,ac,ad,ae,af,0,0,E0,E0,E0,E0,E0,E0,E0,E0,false,0,E0,E0,E0,E0,E0,E0,E0,E0)
 else
 if (cop .eql a1 11) then
 some (a,b,c,d,e,f,g,h,i,j,k,l,m,n,o,p,q,r,s,t,u,v,w,x,y,z,A,C,D,E,G,H,J,K,L,M,N,O,P,Q,R,T,U,V,0,X,Y,Z,aa,ab,ac,ad,ae,af,ag,ah,ai,aj,ak,al,am,an,ao,ap,aq,ar,aZ,au,av,aw,ax,ay,az,a0)
 else
 if (cop .eql a1 12) then
 some (a,b,c,d,e,f,g,h,i,j,k,l,m,n,o,p,q,r,s,t,u,v,w,x,y,z,A,C,D,E,G,H,J,K,L,M,N,O,P,Q,R,T,U,V,W,0,E0,E0,aa,ab,ac,ad,ae,af,ag,ah,ai,aj,ak,al,am,an,ao,ap,aq,ar,aZ,au,av,aw,ax,ay,az,a0)
 else
 if (cop .eql a1 13) then
 some (a,b,c,d,e,f,g,h,i,j,k,l,m,n,o,p,q,r,s,t,u,v,w,x,y,z,A,C,D,E,G,H,J,K,L,M,N,O,P,Q,R,T,U,V,W,X,Y,Z,E0,E0,E0,E0,E0,E0,ag,ah,ai,aj,ak,al,am,an,ao,ap,aq,ar,aZ,au,av,aw,ax,ay,az,a0)
 else
 if (cop .eql a1 14) then
 some (a,b,c,d,e,f,g,h,i,j,k,l,m,n,o,p,q,r,s,t,u,v,w,x,y,z,A,C,D,E,G,H,J,K,L,M,N,O,P,Q,R,T,U,E0,W,X,Y,Z,aa,ab,ac,ad,ae,af,ag,ah,ai,aj,ak,al,am,an,ao,ap,aq,ar,aZ,au,av,aw,ax,ay,az,a0)
 else
 some (a,b,c,d,e,f,g,h,i,j,k,l,m,n,o,p,q,r,s,t,u,v,w,x,y,z,A,C,D,E,G,H,J,K,L,M,N,O,P,Q,R,T,U,V,W,X,Y,Z,aa,ab,ac,ad,ae,af,ag,ah,ai,aj,ak,al,am,an,ao,ap,aq,ar,aZ,au,av,aw,ax,ay,az,a0)):=by kernel_rfl
noncomputable def Zyv:Fn:=⟨29,[2],[],[],0,[],[],Tryz.f109,[.agg hs6],[.c (.bool)],[(164,Zup.S)]⟩
theorem ZzQ:Zyv.S.Ok Tryz.prog 109:=Zyv.ok Tryz.func109 (by kernel_rfl) ⟨Zsf,trivial⟩
noncomputable def ZCq (a c d e f h j k m n o p q r s t u v w x:Int) (y:LL) (z A C D E G:Int) (H:Bool):Option (Bool):=Zyv.S.g [.i a,.i c,.i d,.i e,.i f,.i h,.i j,.i k,.i m,.i n,.i o,.i p,.i q,.i r,.i s,.i t,.i u,.i v,.i w,.i x,.l y,.i z,.i A,.i C,.i D,.i E,.i G,.b H]
theorem Zr9 (a b c d e f g h i j k l m n o p q r s t:Int) (u:LL) (v w x y z A:Int) (C:Bool):ZCq a b c d e f g h i j k l m n o p q r s t u v w x y z A C =
 (if ((cop .eql a 0)&&((cop .eql b 0)&&((cop .eql c 0)&&true))) then
 if ((cop .eql d 0)&&((cop .eql e 0)&&((cop .eql f 0)&&((cop .eql g 0)&&((cop .eql h 0)&&((cop .eql i 0)&&((cop .eql j 0)&&((cop .eql k 0)&&((cop .eql l 0)&&((cop .eql m 0)&&((cop .eql n 0)&&((cop .eql o 0)&&true)))))))))))) then
 if (cop .eql p 0) then
 if (cop .eql q 0) then
 (ZtW r s t u v w x y z A C 0 0 0 E0 0 0 0 0 0 0 false).bind fun D=>
 some (D)
 else
 some (false)
 else
 some (false)
 else
 some (false)
 else
 some (false)):=by kernel_rfl
noncomputable def Zv5:Fn:=⟨18,[2],[],[],0,[],[],Tryz.f110,[.agg [.int .i64,.slice 1,.slice 1]],[.c (.bool)],[]⟩
theorem ZvL:Zv5.S.Ok Tryz.prog 110:=Zv5.ok Tryz.func110 (by kernel_rfl) trivial
noncomputable def Zvy (a:Int) (b c:LL):Option (Bool):=Zv5.S.g [.i a,.l b,.l c]
theorem ZsP (a:Int) (b c:LL):Zvy a b c =
 (if (cop .eql a 0) then
 if (cop .eql (List.length b:Int) 0) then
 some ((cop .eql (List.length c:Int) 0))
 else
 some (false)
 else
 some (false)):=by kernel_rfl
noncomputable def ZvM:Fn:=⟨37,[2],[],[],0,[],[],Tryz.f111,[.agg hs30],[.c (.bool)],[]⟩
theorem Zxj:ZvM.S.Ok Tryz.prog 111:=ZvM.ok Tryz.func111 (by kernel_rfl) trivial
noncomputable def ZvW (a b c d e f:LL):Option (Bool):=ZvM.S.g [.l a,.l b,.l c,.l d,.l e,.l f]
theorem ZrG (a b c d e f:LL):ZvW a b c d e f =
 (if (cop .eql (List.length a:Int) 0) then
 if (cop .eql (List.length b:Int) 0) then
 if (cop .eql (List.length c:Int) 0) then
 if (cop .eql (List.length d:Int) 0) then
 if (cop .eql (List.length e:Int) 0) then
 some ((cop .eql (List.length f:Int) 0))
 else
 some (false)
 else
 some (false)
 else
 some (false)
 else
 some (false)
 else
 some (false)):=by kernel_rfl
noncomputable def Zzo:Fn:=⟨31,[2],[],[],0,[],[],Tryz.f112,[.agg hs7],[.c (.bool)],[(110,Zv5.S),(111,ZvM.S)]⟩
theorem Zzq:Zzo.S.Ok Tryz.prog 112:=Zzo.ok Tryz.func112 (by kernel_rfl) ⟨ZvL,⟨Zxj,trivial⟩⟩
noncomputable def ZBg (a c:Int) (d e f h j k m n:LL) (o:Bool) (p:Int) (q r s t u v w x:LL):Option (Bool):=Zzo.S.g [.i a,.i c,.l d,.l e,.l f,.l h,.l j,.l k,.l m,.l n,.b o,.i p,.l q,.l r,.l s,.l t,.l u,.l v,.l w,.l x]
theorem Zs2 (a b:Int) (c d e f g h i j:LL) (k:Bool) (l:Int) (m n o p q r s t:LL):ZBg a b c d e f g h i j k l m n o p q r s t =
 (if (cop .eql a 0) then
 (Zvy b c d).bind fun u=>
 if u then
 (ZvW e f g h i j).bind fun v=>
 if v then
 if (!k) then
 (Zvy l m n).bind fun w=>
 if w then
 (ZvW o p q r s t).bind fun x=>
 some (x)
 else
 some (false)
 else
 some (false)
 else
 some (false)
 else
 some (false)
 else
 some (false)):=by kernel_rfl
noncomputable def F37:Fn:=⟨81,[2],[],[],0,[],[],Tryz.f37,[.agg hs0],[.c (.bool)],[(109,Zyv.S),(110,Zv5.S),(111,ZvM.S),(112,Zzo.S)]⟩
theorem ZDT:F37.S.Ok Tryz.prog 37:=F37.ok Tryz.func37 (by kernel_rfl) ⟨ZzQ,⟨ZvL,⟨Zxj,⟨Zzq,trivial⟩⟩⟩⟩
noncomputable def g37 (a c d e f h j k m n o:Int) (p:Bool) (q r s t u v w x y z A C D E G H J K L M:Int) (N:LL) (O P Q R T U:Int) (V:Bool) (W X Y Z:LL) (aa ab:Int) (ac ad ae af ag ah ai aj:LL) (ak al:Int) (am an ao ap aq ar aZ au:LL) (av:Bool) (aw:Int) (ax ay az a0 a1 a2 a3 a4:LL):Option (Bool):=F37.S.g [.i a,.i c,.i d,.i e,.i f,.i h,.i j,.i k,.i m,.i n,.i o,.b p,.i q,.i r,.i s,.i t,.i u,.i v,.i w,.i x,.i y,.i z,.i A,.i C,.i D,.i E,.i G,.i H,.i J,.i K,.i L,.i M,.l N,.i O,.i P,.i Q,.i R,.i T,.i U,.b V,.l W,.l X,.l Y,.l Z,.i aa,.i ab,.l ac,.l ad,.l ae,.l af,.l ag,.l ah,.l ai,.l aj,.i ak,.i al,.l am,.l an,.l ao,.l ap,.l aq,.l ar,.l aZ,.l au,.b av,.i aw,.l ax,.l ay,.l az,.l a0,.l a1,.l a2,.l a3,.l a4]
theorem Zvm (x0 x1 x2 x3 a b c d e f g:Int) (h:Bool) (i j k l m n o p q r s t u v w x y z A C:Int) (D:LL) (E G H J K L:Int) (M:Bool) (N O P Q:LL) (R T:Int) (U V W X Y Z aa ab:LL) (ac ad:Int) (ae af ag ah ai aj ak al:LL) (am:Bool) (an:Int) (ao ap aq ar aZ au av aw:LL):g37 x0 x1 x2 x3 a b c d e f g h i j k l m n o p q r s t u v w x y z A C D E G H J K L M N O P Q R T U V W X Y Z aa ab ac ad ae af ag ah ai aj ak al am an ao ap aq ar aZ au av aw =
 (if (cop .eql a 0) then
 if (cop .eql b 0) then
 if (cop .eql c 0) then
 if ((cop .eql d 0)&&((cop .eql e 0)&&((cop .eql f 0)&&true))) then
 if (cop .eql g 0) then
 if (!h) then
 (ZCq i j k l m n o p q r s t u v w x y z A C D E G H J K L M).bind fun a1=>
 if a1 then
 if (cop .eql (List.length N:Int) 0) then
 if (cop .eql (List.length O:Int) 0) then
 if (cop .eql (List.length P:Int) 0) then
 if (cop .eql (List.length Q:Int) 0) then
 if (cop .eql R 0) then
 (Zvy T U V).bind fun a2=>
 if a2 then
 (ZvW W X Y Z aa ab).bind fun a3=>
 if a3 then
 (ZBg ac ad ae af ag ah ai aj ak al am an ao ap aq ar aZ au av aw).bind fun a4=>
 some (a4)
 else
 some (false)
 else
 some (false)
 else
 some (false)
 else
 some (false)
 else
 some (false)
 else
 some (false)
 else
 some (false)
 else
 some (false)
 else
 some (false)
 else
 some (false)
 else
 some (false)
 else
 some (false)
 else
 some (false)
 else
 some (false)):=by kernel_rfl
noncomputable def F12:Fn:=⟨50,[2],[(6,[(1,.box hs0),(5,.box hs0),(35,.c (.slice 1)),(36,.c (.int .i64)),(37,.c (.int .i64))])],[],0,[],[],Tryz.f12,[.agg hs0],[.c (.bool)],[(32,F32.S),(33,F33.S),(34,F34.S),(35,F35.S),(36,F36.S),(37,F37.S)]⟩
theorem ZCi:F12.S.Ok Tryz.prog 12:=F12.ok Tryz.func12 (by kernel_rfl) ⟨ZAI,⟨Zzw,⟨ZsE,⟨ZEx,⟨ZFg,⟨ZDT,trivial⟩⟩⟩⟩⟩⟩
noncomputable def g12 (a c d e f h j k m n o:Int) (p:Bool) (q r s t u v w x y z A C D E G H J K L M:Int) (N:LL) (O P Q R T U:Int) (V:Bool) (W X Y Z:LL) (aa ab:Int) (ac ad ae af ag ah ai aj:LL) (ak al:Int) (am an ao ap aq ar aZ au:LL) (av:Bool) (aw:Int) (ax ay az a0 a1 a2 a3 a4:LL):Option (Bool):=F12.S.g [.i a,.i c,.i d,.i e,.i f,.i h,.i j,.i k,.i m,.i n,.i o,.b p,.i q,.i r,.i s,.i t,.i u,.i v,.i w,.i x,.i y,.i z,.i A,.i C,.i D,.i E,.i G,.i H,.i J,.i K,.i L,.i M,.l N,.i O,.i P,.i Q,.i R,.i T,.i U,.b V,.l W,.l X,.l Y,.l Z,.i aa,.i ab,.l ac,.l ad,.l ae,.l af,.l ag,.l ah,.l ai,.l aj,.i ak,.i al,.l am,.l an,.l ao,.l ap,.l aq,.l ar,.l aZ,.l au,.b av,.i aw,.l ax,.l ay,.l az,.l a0,.l a1,.l a2,.l a3,.l a4]
noncomputable def Zp2 (k:Nat) (a c d e f g h j m n o:Int) (p:Bool) (q r s t u v w x y z A C D E G H J K L M:Int) (N:LL) (O P Q R T U:Int) (V:Bool) (W X Y Z:LL) (aa ab:Int) (ac ad ae af ag ah ai aj:LL) (ak al:Int) (am an ao ap aq ar aZ au:LL) (av:Bool) (aw:Int) (ax ay az a0 a1 a2 a3 a4:LL) (a5 a6 a7 a8 a9 ba bb bc bd be bf:Int) (bg:Bool) (bh bi bj bk bl bm bn bo bp bq br bs bt bu bv bw bx bz b0 b1:Int) (b2:LL) (b3 b4 b5 b6 b7 b8:Int) (b9:Bool) (ca cb cc cd:LL) (ce cf:Int) (cg ch ci cj ck cl cm cn:LL) (co cp:Int) (cq cr cs ct cu cv cw cx:LL) (cy:Bool) (cz:Int) (c0 c1 c2 c3 c4 c5 c6 c7 c8:LL) (c9 da:Int):Option (Bool):=F12.lp [0,1,0,1,0,1,0,1,0] 0 r0 k [.i a,.i c,.i d,.i e,.i f,.i g,.i h,.i j,.i m,.i n,.i o,.b p,.i q,.i r,.i s,.i t,.i u,.i v,.i w,.i x,.i y,.i z,.i A,.i C,.i D,.i E,.i G,.i H,.i J,.i K,.i L,.i M,.l N,.i O,.i P,.i Q,.i R,.i T,.i U,.b V,.l W,.l X,.l Y,.l Z,.i aa,.i ab,.l ac,.l ad,.l ae,.l af,.l ag,.l ah,.l ai,.l aj,.i ak,.i al,.l am,.l an,.l ao,.l ap,.l aq,.l ar,.l aZ,.l au,.b av,.i aw,.l ax,.l ay,.l az,.l a0,.l a1,.l a2,.l a3,.l a4,.i a5,.i a6,.i a7,.i a8,.i a9,.i ba,.i bb,.i bc,.i bd,.i be,.i bf,.b bg,.i bh,.i bi,.i bj,.i bk,.i bl,.i bm,.i bn,.i bo,.i bp,.i bq,.i br,.i bs,.i bt,.i bu,.i bv,.i bw,.i bx,.i bz,.i b0,.i b1,.l b2,.i b3,.i b4,.i b5,.i b6,.i b7,.i b8,.b b9,.l ca,.l cb,.l cc,.l cd,.i ce,.i cf,.l cg,.l ch,.l ci,.l cj,.l ck,.l cl,.l cm,.l cn,.i co,.i cp,.l cq,.l cr,.l cs,.l ct,.l cu,.l cv,.l cw,.l cx,.b cy,.i cz,.l c0,.l c1,.l c2,.l c3,.l c4,.l c5,.l c6,.l c7,.l c8,.i c9,.i da]
theorem Zkw (k:Nat) (d e f g h i j l m n o:Int) (p:Bool) (q r s t u v w x y z A C D E G H J K L M:Int) (N:LL) (O P Q R T U:Int) (V:Bool) (W X Y Z:LL) (aa ab:Int) (ac ad ae af ag ah ai aj:LL) (ak al:Int) (am an ao ap aq ar aZ au:LL) (av:Bool) (aw:Int) (ax ay az a0 a1 a2 a3 a4:LL) (a5 a6 a7 a8 a9 ba bb bc bd be bf:Int) (bg:Bool) (bh bi bj bk bl bm bn bo bp bq br bs bt bu bv bw bx bz b0 b1:Int) (b2:LL) (b3 b4 b5 b6 b7 b8:Int) (b9:Bool) (ca cb cc cd:LL) (ce cf:Int) (cg ch ci cj ck cl cm cn:LL) (co cp:Int) (cq cr cs ct cu cv cw cx:LL) (cy:Bool) (cz:Int) (c0 c1 c2 c3 c4 c5 c6 c7 c8:LL) (c9 b:Int):Zp2 (k+1) d e f g h i j l m n o p q r s t u v w x y z A C D E G H J K L M N O P Q R T U V W X Y Z aa ab ac ad ae af ag ah ai aj ak al am an ao ap aq ar aZ au av aw ax ay az a0 a1 a2 a3 a4 a5 a6 a7 a8 a9 ba bb bc bd be bf bg bh bi bj bk bl bm bn bo bp bq br bs bt bu bv bw bx bz b0 b1 b2 b3 b4 b5 b6 b7 b8 b9 ca cb cc cd ce cf cg ch ci cj ck cl cm cn co cp cq cr cs ct cu cv cw cx cy cz c0 c1 c2 c3 c4 c5 c6 c7 c8 c9 b =
 (if (cop .lss b c9) then
 Zm c8 b [.int .i64] fun (c:Int)=>
 (g35 d e f g h i j l m n o p q r s t u v w x y z A C D E G H J K L M N O P Q R T U V W X Y Z aa ab ac ad ae af ag ah ai aj ak al am an ao ap aq ar aZ au av aw ax ay az a0 a1 a2 a3 a4 c).bind fun da=>
 if (!da) then
 some (false)
 else
 (g36 a5 a6 a7 a8 a9 ba bb bc bd be bf bg bh bi bj bk bl bm bn bo bp bq br bs bt bu bv bw bx bz b0 b1 b2 b3 b4 b5 b6 b7 b8 b9 ca cb cc cd ce cf cg ch ci cj ck cl cm cn co cp cq cr cs ct cu cv cw cx cy cz c0 c1 c2 c3 c4 c5 c6 c7 c).bind fun a=>
 Zp2 k d e f g h i j l m n o p q r s t u v w x y z A C D E G H J K L M N O P Q R T U V W X Y Z aa ab ac ad ae af ag ah ai aj ak al am an ao ap aq ar aZ au av aw ax ay az a0 a1 a2 a3 a4 a.1 a.2.1 a.2.2.1 a.2.2.2.1 a.2.2.2.2.1 a.2.2.2.2.2.1 a.2.2.2.2.2.2.1 a.2.2.2.2.2.2.2.1 a.2.2.2.2.2.2.2.2.1 a.2.2.2.2.2.2.2.2.2.1 a.2.2.2.2.2.2.2.2.2.2.1 a.2.2.2.2.2.2.2.2.2.2.2.1 (d4 (d8 a)).1 (d4 (d8 a)).2.1 (d2 (d4 (d8 a))).1 (d2 (d4 (d8 a))).2.1 (d16 a).1 (d16 a).2.1 (d2 (d16 a)).1 (d2 (d16 a)).2.1 (d4 (d16 a)).1 (d4 (d16 a)).2.1 (d2 (d4 (d16 a))).1 (d2 (d4 (d16 a))).2.1 (d8 (d16 a)).1 (d8 (d16 a)).2.1 (d2 (d8 (d16 a))).1 (d2 (d8 (d16 a))).2.1 (d4 (d8 (d16 a))).1 (d4 (d8 (d16 a))).2.1 (d2 (d4 (d8 (d16 a)))).1 (d2 (d4 (d8 (d16 a)))).2.1 (d16 (d16 a)).1 (d16 (d16 a)).2.1 (d2 (d16 (d16 a))).1 (d2 (d16 (d16 a))).2.1 (d4 (d16 (d16 a))).1 (d4 (d16 (d16 a))).2.1 (d2 (d4 (d16 (d16 a)))).1 (d2 (d4 (d16 (d16 a)))).2.1 (d8 (d16 (d16 a))).1 (d8 (d16 (d16 a))).2.1 (d2 (d8 (d16 (d16 a)))).1 (d2 (d8 (d16 (d16 a)))).2.1 (d4 (d8 (d16 (d16 a)))).1 (d4 (d8 (d16 (d16 a)))).2.1 (d2 (d4 (d8 (d16 (d16 a))))).1 (d2 (d4 (d8 (d16 (d16 a))))).2.1 (d16 (d16 (d16 a))).1 (d16 (d16 (d16 a))).2.1 (d2 (d16 (d16 (d16 a)))).1 (d2 (d16 (d16 (d16 a)))).2.1 (d4 (d16 (d16 (d16 a)))).1 (d4 (d16 (d16 (d16 a)))).2.1 (d2 (d4 (d16 (d16 (d16 a))))).1 (d2 (d4 (d16 (d16 (d16 a))))).2.1 (d8 (d16 (d16 (d16 a)))).1 (d8 (d16 (d16 (d16 a)))).2.1 (d2 (d8 (d16 (d16 (d16 a))))).1 (d2 (d8 (d16 (d16 (d16 a))))).2.1 (d4 (d8 (d16 (d16 (d16 a))))).1 (d4 (d8 (d16 (d16 (d16 a))))).2.1 (d2 (d4 (d8 (d16 (d16 (d16 a)))))).1 (d2 (d4 (d8 (d16 (d16 (d16 a)))))).2.1 (d16 (d16 (d16 (d16 a)))).1 (d16 (d16 (d16 (d16 a)))).2.1 (d2 (d16 (d16 (d16 (d16 a))))).1 (d2 (d16 (d16 (d16 (d16 a))))).2.1 (d4 (d16 (d16 (d16 (d16 a))))).1 (d4 (d16 (d16 (d16 (d16 a))))).2.1 (d2 (d4 (d16 (d16 (d16 (d16 a)))))).1 (d2 (d4 (d16 (d16 (d16 (d16 a)))))).2.1 (d8 (d16 (d16 (d16 (d16 a))))).1 (d8 (d16 (d16 (d16 (d16 a))))).2 c8 c9 (iop .add .i64 b 1)
 else
 (g37 a5 a6 a7 a8 a9 ba bb bc bd be bf bg bh bi bj bk bl bm bn bo bp bq br bs bt bu bv bw bx bz b0 b1 b2 b3 b4 b5 b6 b7 b8 b9 ca cb cc cd ce cf cg ch ci cj ck cl cm cn co cp cq cr cs ct cu cv cw cx cy cz c0 c1 c2 c3 c4 c5 c6 c7).bind fun c=>
 some (c)):=by kernel_rfl
theorem Zxh (a b c d e f g h i j k:Int) (l:Bool) (m n o p q r s t u v w x y z A C D E G H:Int) (J:LL) (K L M N O P:Int) (Q:Bool) (R T U V:LL) (W X:Int) (Y Z aa ab ac ad ae af:LL) (ag ah:Int) (ai aj ak al am an ao ap:LL) (aq:Bool) (ar:Int) (aZ au av aw ax ay az a0:LL):g12 a b c d e f g h i j k l m n o p q r s t u v w x y z A C D E G H J K L M N O P Q R T U V W X Y Z aa ab ac ad ae af ag ah ai aj ak al am an ao ap aq ar aZ au av aw ax ay az a0 =
 ((g32 a).bind fun a1=>
 if (!a1.2) then
 some (false)
 else
 (g33 b).bind fun a2=>
 if (!a2) then
 some (false)
 else
 (g34 c).bind fun a3=>
 if (!a3) then
 some (false)
 else
 (g34 d).bind fun a4=>
 if (!a4) then
 some (false)
 else
 Zp2 Zr a b c d e f g h i j k l m n o p q r s t u v w x y z A C D E G H J K L M N O P Q R T U V W X Y Z aa ab ac ad ae af ag ah ai aj ak al am an ao ap aq ar aZ au av aw ax ay az a0 a b c d e f g h i j k l m n o p q r s t u v w x y z A C D E G H J K L M N O P Q R T U V W X Y Z aa ab ac ad ae af ag ah ai aj ak al am an ao ap aq ar aZ au av aw ax ay az a0 a1.1 (List.length a1.1:Int) 0):=by kernel_rfl
noncomputable def F50:Fn:=⟨9,[2],[],[],0,[],[],Tryz.f50,[.c (.int .i64)],[.c (.bool)],[]⟩
theorem ZDa:F50.S.Ok Tryz.prog 50:=F50.ok Tryz.func50 (by kernel_rfl) trivial
noncomputable def g50 (a:Int):Option (Bool):=F50.S.g [.i a]
theorem ZxJ (a:Int):g50 a =
 (if (cop .geq a 0) then
 some ((cop .leq a 1073741824))
 else
 some (false)):=by kernel_rfl
noncomputable def F51:Fn:=⟨9,[2],[],[],0,[],[],Tryz.f51,[.c (.int .i64)],[.c (.bool)],[]⟩
theorem Zuy:F51.S.Ok Tryz.prog 51:=F51.ok Tryz.func51 (by kernel_rfl) trivial
noncomputable def g51 (a:Int):Option (Bool):=F51.S.g [.i a]
theorem Zw1 (a:Int):g51 a =
 (if (cop .geq a 0) then
 some ((cop .lss a 32))
 else
 some (false)):=by kernel_rfl
noncomputable def Zrv:Fn:=⟨31,[2],[],[],0,[],[],Tryz.f128,[.agg [.int .i64,.int .i64,.int .i64]],[.c (.bool)],[]⟩
theorem ZmD:Zrv.S.Ok Tryz.prog 128:=Zrv.ok Tryz.func128 (by kernel_rfl) trivial
noncomputable def Zq6 (a b c:Int):Option (Bool):=Zrv.S.g [.i a,.i b,.i c]
theorem ZrN (a b c:Int):Zq6 a b c =
 (if (cop .geq a 0) then
 if (cop .lss a 32) then
 if (cop .geq b 1) then
 if (cop .leq b 1073741824) then
 if (cop .geq c 0) then
 some ((cop .lss c 8))
 else
 some (false)
 else
 some (false)
 else
 some (false)
 else
 some (false)
 else
 some (false)):=by kernel_rfl
noncomputable def F53:Fn:=⟨10,[2],[],[],0,[],[],Tryz.f53,[.agg [.int .i64,.int .i64,.int .i64]],[.c (.bool)],[(128,Zrv.S)]⟩
theorem ZAu:F53.S.Ok Tryz.prog 53:=F53.ok Tryz.func53 (by kernel_rfl) ⟨ZmD,trivial⟩
noncomputable def g53 (a b c:Int):Option (Bool):=F53.S.g [.i a,.i b,.i c]
theorem ZuW (b c a:Int):g53 b c a =
 ((Zq6 b c a).bind fun d=>
 if d then
 some ((cop .eql a 0))
 else
 some (false)):=by kernel_rfl
noncomputable def F62:Fn:=⟨9,[2],[],[],0,[],[],Tryz.f62,[.c (.int .i64)],[.c (.bool)],[]⟩
theorem Zy7:F62.S.Ok Tryz.prog 62:=F62.ok Tryz.func62 (by kernel_rfl) trivial
noncomputable def g62 (a:Int):Option (Bool):=F62.S.g [.i a]
theorem Zx9 (a:Int):g62 a =
 (if (cop .geq a 0) then
 some ((cop .lss a 16))
 else
 some (false)):=by kernel_rfl
noncomputable def F69:Fn:=⟨26,[4],[(4,[(0,.c (.slice 3)),(1,.c (.slice 3)),(5,.c (.int .i64))])],[],0,[],[],Tryz.f69,[.c (.slice 3),.c (.slice 3)],[.c (.bool)],[]⟩
theorem ZzZ:F69.S.Ok Tryz.prog 69:=F69.ok Tryz.func69 (by kernel_rfl) trivial
noncomputable def g69 (a b:LL):Option (Bool):=F69.S.g [.l a,.l b]
noncomputable def ZqD (k:Nat) (a b:LL) (c:Int):Option (Bool):=F69.lp [1,0] 0 r0 k [.l a,.l b,.i c]
theorem Zk2 (k:Nat) (b c:LL) (a:Int):ZqD (k+1) b c a =
 (if (cop .lss a (List.length b:Int)) then
 Zm b a [.int .i64,.int .i64,.int .i64] fun (d:Int×Int×Int)=>
 Zm c a [.int .i64,.int .i64,.int .i64] fun (e:Int×Int×Int)=>
 if (!((cop .eql d.1 e.1)&&((cop .eql d.2.1 e.2.1)&&((cop .eql d.2.2 e.2.2)&&true)))) then
 some (false)
 else
 ZqD k b c (iop .add .i64 a 1)
 else
 some (true)):=by kernel_rfl
theorem Zw5 (a b:LL):g69 a b =
 (if (cop .neq (List.length a:Int) (List.length b:Int)) then
 some (false)
 else
 ZqD Zr a b 0):=by kernel_rfl
noncomputable def Zo5:Fn:=⟨24,[4],[],[],0,[],[],Tryz.f127,[.agg hs16,.agg hs16],[.c (.bool)],[(69,F69.S)]⟩
theorem Zlp:Zo5.S.Ok Tryz.prog 127:=Zo5.ok Tryz.func127 (by kernel_rfl) ⟨ZzZ,trivial⟩
noncomputable def Zmy (a c d:Int) (e:LL) (f h j k m n:Int) (o:Bool) (p q r:Int) (s:LL) (t u v w x y:Int) (z:Bool):Option (Bool):=Zo5.S.g [.i a,.i c,.i d,.l e,.i f,.i h,.i j,.i k,.i m,.i n,.b o,.i p,.i q,.i r,.l s,.i t,.i u,.i v,.i w,.i x,.i y,.b z]
theorem Zsw (a b c:Int) (d:LL) (e f g h i j:Int) (k:Bool) (l m n:Int) (o:LL) (p q r s t u:Int) (v:Bool):Zmy a b c d e f g h i j k l m n o p q r s t u v =
 (if ((cop .eql a l)&&((cop .eql b m)&&((cop .eql c n)&&true))) then
 if ((cop .eql e p)&&((cop .eql f q)&&((cop .eql g r)&&((cop .eql h s)&&((cop .eql i t)&&((cop .eql j u)&&((k == v)&&true))))))) then
 (g69 d o).bind fun w=>
 some (w)
 else
 some (false)
 else
 some (false)):=by kernel_rfl
noncomputable def Zy4:Fn:=⟨12,[2],[],[],0,[],[],Tryz.f195,[.c (.int .i64)],[.c (.int .i64)],[]⟩
theorem Zz7:Zy4.S.Ok Tryz.prog 195:=Zy4.ok Tryz.func195 (by kernel_rfl) trivial
noncomputable def Zz6 (a:Int):Option (Int):=Zy4.S.g [.i a]
theorem Zs5 (a:Int):Zz6 a =
 (if (cop .eql a 3) then
 some (12)
 else
 if (cop .eql a 4) then
 some (6)
 else
 if (cop .eql a 5) then
 some (10)
 else
 if (cop .eql a 6) then
 some (16)
 else
 some (0)):=by kernel_rfl
noncomputable def Zwb:Fn:=⟨35,[4],[],[],0,[],[],Tryz.f162,[.c (.int .i64),.c (.int .i64)],[.c (.bool)],[(195,Zy4.S)]⟩
theorem Zxf:Zwb.S.Ok Tryz.prog 162:=Zwb.ok Tryz.func162 (by kernel_rfl) ⟨Zz7,trivial⟩
noncomputable def ZyA (a b:Int):Option (Bool):=Zwb.S.g [.i a,.i b]
theorem ZrK (a b:Int):ZyA a b =
 (if (cop .eql a 1) then
 if (cop .geq b 6) then
 some ((cop .leq b 40))
 else
 some (false)
 else
 if (cop .eql a 2) then
 if (cop .geq b 12) then
 some ((cop .leq b 40))
 else
 some (false)
 else
 if (cop .geq a 3) then
 if (cop .leq a 6) then
 (Zz6 a).bind fun c=>
 some ((cop .eql b c))
 else
 some (false)
 else
 some (false)):=by kernel_rfl
noncomputable def Zx0:Fn:=⟨8,[2],[],[],0,[],[],Tryz.f159,[.agg hs27],[.agg [.int .i64,.int .i64]],[]⟩
theorem ZvY:Zx0.S.Ok Tryz.prog 159:=Zx0.ok Tryz.func159 (by kernel_rfl) trivial
noncomputable def Zms (a c d e f h:Int) (j:Bool):Option (Int×Int):=Zx0.S.g [.i a,.i c,.i d,.i e,.i f,.i h,.b j]
theorem ZtH (c a b d e f:Int) (g:Bool):Zms c a b d e f g =
 (some (a,b)):=by kernel_rfl
noncomputable def ZrM:Fn:=⟨38,[2],[],[],0,[],[],Tryz.f185,[.agg [.int .i64,.int .i64]],[.c (.bool)],[]⟩
theorem Zqb:ZrM.S.Ok Tryz.prog 185:=ZrM.ok Tryz.func185 (by kernel_rfl) trivial
noncomputable def Zro (a b:Int):Option (Bool):=ZrM.S.g [.i a,.i b]
theorem Ztk (b a:Int):Zro b a =
 (if (cop .lss a 6) then
 some (false)
 else
 if (cop .gtr a 40) then
 some (false)
 else
 if (cop .lss b 0) then
 some (false)
 else
 if (cop .geq b 1099511627776) then
 some (false)
 else
 ZE ((0:Int)≤(IntKind.wrap .u64 a))<|
 ZE (((iop .shl .i64 1 (IntKind.wrap .u64 a)):Int)≠0)<|
 if (cop .eql (iop .rem .i64 b (iop .shl .i64 1 (IntKind.wrap .u64 a))) 0) then
 some ((cop .leq (iop .add .i64 b (iop .shl .i64 1 (IntKind.wrap .u64 a))) 1099511627776))
 else
 some (false)):=by kernel_rfl
noncomputable def ZvS:Fn:=⟨23,[4],[],[],0,[],[],Tryz.f163,[.c (.int .i64),.c (.int .i64)],[.c (.bool)],[]⟩
theorem Zx5:ZvS.S.Ok Tryz.prog 163:=ZvS.ok Tryz.func163 (by kernel_rfl) trivial
noncomputable def ZyC (a b:Int):Option (Bool):=ZvS.S.g [.i a,.i b]
theorem Ztc (b a:Int):ZyC b a =
 (if (cop .geq a 0) then
 if (cop .eql b 32) then
 if (cop .leq a 1) then
 some (true)
 else
 if (cop .eql b 39) then
 some ((cop .leq a 2))
 else
 some (false)
 else
 if (cop .eql b 39) then
 some ((cop .leq a 2))
 else
 some (false)
 else
 some (false)):=by kernel_rfl
noncomputable def ZtN:Fn:=⟨64,[2],[],[],0,[],[],Tryz.f130,[.agg hs27],[.c (.bool)],[(162,Zwb.S),(159,Zx0.S),(185,ZrM.S),(163,ZvS.S)]⟩
theorem Zqz:ZtN.S.Ok Tryz.prog 130:=ZtN.ok Tryz.func130 (by kernel_rfl) ⟨Zxf,⟨ZvY,⟨Zqb,⟨Zx5,trivial⟩⟩⟩⟩
noncomputable def Zux (a c d e f h:Int) (j:Bool):Option (Bool):=ZtN.S.g [.i a,.i c,.i d,.i e,.i f,.i h,.b j]
theorem ZsL (a g f e c d:Int) (b:Bool):Zux a g f e c d b =
 ((ZyA a f).bind fun i=>
 if (!i) then
 some (false)
 else
 (Zms a g f e c d b).bind fun h=>
 (Zro h.1 h.2).bind fun j=>
 if (!j) then
 some (false)
 else
 if (cop .lss e 0) then
 some (false)
 else
 if (cop .gtr e 7) then
 some (false)
 else
 if (cop .eql a 3) then
 (ZyC c d).bind fun k=>
 if (!k) then
 some (false)
 else
 if (cop .neq a 3) then
 if (cop .neq c 0) then
 some (false)
 else
 if (cop .neq d 0) then
 some (false)
 else
 if (!b) then
 some (true)
 else
 if (cop .eql a 1) then
 some (true)
 else
 some ((cop .eql a 2))
 else
 if (!b) then
 some (true)
 else
 if (cop .eql a 1) then
 some (true)
 else
 some ((cop .eql a 2))
 else
 if (cop .neq a 3) then
 if (cop .neq c 0) then
 some (false)
 else
 if (cop .neq d 0) then
 some (false)
 else
 if (!b) then
 some (true)
 else
 if (cop .eql a 1) then
 some (true)
 else
 some ((cop .eql a 2))
 else
 if (!b) then
 some (true)
 else
 if (cop .eql a 1) then
 some (true)
 else
 some ((cop .eql a 2))):=by kernel_rfl
noncomputable def F78:Fn:=⟨18,[4],[(2,[(0,.c (.slice 3)),(3,.box [.int .i64,.int .i64,.int .i64]),(5,.c (.int .i64))])],[],0,[],[],Tryz.f78,[.c (.slice 3),.agg [.int .i64,.int .i64,.int .i64]],[.c (.bool)],[]⟩
theorem ZAY:F78.S.Ok Tryz.prog 78:=F78.ok Tryz.func78 (by kernel_rfl) trivial
noncomputable def g78 (a:LL) (b c d:Int):Option (Bool):=F78.S.g [.l a,.i b,.i c,.i d]
noncomputable def Zqy (k:Nat) (a:LL) (b c d e:Int):Option (Bool):=F78.lp [0] 0 r0 k [.l a,.i b,.i c,.i d,.i e]
theorem Zk9 (k:Nat) (a:LL) (c d e b:Int):Zqy (k+1) a c d e b =
 (if (cop .lss b (List.length a:Int)) then
 Zm a b [.int .i64,.int .i64,.int .i64] fun (f:Int×Int×Int)=>
 if ((cop .eql f.1 c)&&((cop .eql f.2.1 d)&&((cop .eql f.2.2 e)&&true))) then
 some (true)
 else
 Zqy k a c d e (iop .add .i64 b 1)
 else
 some (false)):=by kernel_rfl
theorem Zv4 (a:LL) (b c d:Int):g78 a b c d =
 (Zqy Zr a b c d 0):=by kernel_rfl
noncomputable def F61:Fn:=⟨53,[2],[(4,[(1,.box hs16),(3,.c (.int .i64))])],[],0,[],[],Tryz.f61,[.agg hs16],[.c (.bool)],[(128,Zrv.S),(130,ZtN.S),(78,F78.S)]⟩
theorem ZuM:F61.S.Ok Tryz.prog 61:=F61.ok Tryz.func61 (by kernel_rfl) ⟨ZmD,⟨Zqz,⟨ZAY,trivial⟩⟩⟩
noncomputable def g61 (a c d:Int) (e:LL) (f h j k m n:Int) (o:Bool):Option (Bool):=F61.S.g [.i a,.i c,.i d,.l e,.i f,.i h,.i j,.i k,.i m,.i n,.b o]
noncomputable def Zqe (k:Nat) (a c d:Int) (e:LL) (f g h j m n:Int) (o:Bool) (p:Int):Option (Bool):=F61.lp [0,1,0,1,1,0,1,0] 0 r0 k [.i a,.i c,.i d,.l e,.i f,.i g,.i h,.i j,.i m,.i n,.b o,.i p]
theorem Zkr (k:Nat) (e f g:Int) (b:LL) (h i j l m n:Int) (o:Bool) (a:Int):Zqe (k+1) e f g b h i j l m n o a =
 (if (cop .lss a (List.length b:Int)) then
 Zm b a [.int .i64,.int .i64,.int .i64] fun (c:Int×Int×Int)=>
 (Zq6 c.1 c.2.1 c.2.2).bind fun p=>
 if (!p) then
 some (false)
 else
 ZE ((0:Int)≤a)<|
 ZE ((a:Int)≤(List.length b:Int))<|
 Zm b a [.int .i64,.int .i64,.int .i64] fun (d:Int×Int×Int)=>
 (g78 (List.take (Int.toNat a) b) d.1 d.2.1 d.2.2).bind fun q=>
 if q then
 some (false)
 else
 Zqe k e f g b h i j l m n o (iop .add .i64 a 1)
 else
 some (true)):=by kernel_rfl
theorem Zxm (a b c:Int) (d:LL) (e f g h i j:Int) (k:Bool):g61 a b c d e f g h i j k =
 ((Zq6 a b c).bind fun l=>
 if (!l) then
 some (false)
 else
 (Zux e f g h i j k).bind fun m=>
 if (!m) then
 some (false)
 else
 if (cop .gtr (List.length d:Int) 8) then
 some (false)
 else
 (g78 d a b c).bind fun n=>
 if n then
 some (false)
 else
 Zqe Zr a b c d e f g h i j k 0):=by kernel_rfl
noncomputable def F52:Fn:=⟨46,[2],[],[],0,[],[],Tryz.f52,[.agg hs6],[.c (.bool)],[(53,F53.S),(62,F62.S),(127,Zo5.S),(61,F61.S)]⟩
theorem ZDo:F52.S.Ok Tryz.prog 52:=F52.ok Tryz.func52 (by kernel_rfl) ⟨ZAu,⟨Zy7,⟨Zlp,⟨ZuM,trivial⟩⟩⟩⟩
noncomputable def g52 (a c d e f h j k m n o p q r s t u v w x:Int) (y:LL) (z A C D E G:Int) (H:Bool):Option (Bool):=F52.S.g [.i a,.i c,.i d,.i e,.i f,.i h,.i j,.i k,.i m,.i n,.i o,.i p,.i q,.i r,.i s,.i t,.i u,.i v,.i w,.i x,.l y,.i z,.i A,.i C,.i D,.i E,.i G,.b H]
theorem ZwR (o p q b s t u v w x y z A C D r n c d e:Int) (f:LL) (g h i j k l:Int) (m:Bool):g52 o p q b s t u v w x y z A C D r n c d e f g h i j k l m =
 ((g53 o p q).bind fun E=>
 if (!E) then
 some (false)
 else
 if (cop .lss b 1) then
 some (false)
 else
 if (cop .gtr b 6) then
 some (false)
 else
 (g62 r).bind fun G=>
 if (!G) then
 some (false)
 else
 if (cop .neq n 32) then
 if (cop .neq n 39) then
 some (false)
 else
 if (cop .eql b 1) then
 (Zmy c d e f g h i j k l m 0 0 0 E0 0 0 0 0 0 0 false).bind fun a=>
 some (a)
 else
 (g61 c d e f g h i j k l m).bind fun a=>
 some (a)
 else
 if (cop .eql b 1) then
 (Zmy c d e f g h i j k l m 0 0 0 E0 0 0 0 0 0 0 false).bind fun a=>
 some (a)
 else
 (g61 c d e f g h i j k l m).bind fun a=>
 some (a)):=by kernel_rfl
noncomputable def F54:Fn:=⟨9,[2],[],[],0,[],[],Tryz.f54,[.c (.int .i64)],[.c (.bool)],[]⟩
theorem ZDi:F54.S.Ok Tryz.prog 54:=F54.ok Tryz.func54 (by kernel_rfl) trivial
noncomputable def g54 (a:Int):Option (Bool):=F54.S.g [.i a]
theorem Zwz (a:Int):g54 a =
 (if (cop .geq a 0) then
 some ((cop .leq a 99))
 else
 some (false)):=by kernel_rfl
noncomputable def F55:Fn:=⟨29,[4],[(2,[(0,.c (.slice 3)),(1,.c (.bool)),(5,.c (.int .i64))])],[],0,[],[],Tryz.f55,[.c (.slice 3),.c (.bool)],[.c (.bool)],[(128,Zrv.S)]⟩
theorem ZDb:F55.S.Ok Tryz.prog 55:=F55.ok Tryz.func55 (by kernel_rfl) ⟨ZmD,trivial⟩
noncomputable def g55 (a:LL) (c:Bool):Option (Bool):=F55.S.g [.l a,.b c]
noncomputable def ZhD (k:Nat) (a:LL) (c:Bool) (d:Int):Option (Bool):=F55.lp [0] 0 r0 k [.l a,.b c,.i d]
theorem Zk4 (k:Nat) (a:LL) (c:Bool) (b:Int):ZhD (k+1) a c b =
 (if (cop .lss b (List.length a:Int)) then
 Zm a b [.int .i64,.int .i64,.int .i64] fun (d:Int×Int×Int)=>
 (Zq6 d.1 d.2.1 d.2.2).bind fun e=>
 if (!e) then
 some (false)
 else
 if c then
 Zm a b [.int .i64,.int .i64,.int .i64] fun (f:Int×Int×Int)=>
 if (cop .neq f.2.2 0) then
 some (false)
 else
 ZhD k a c (iop .add .i64 b 1)
 else
 ZhD k a c (iop .add .i64 b 1)
 else
 some (true)):=by kernel_rfl
theorem ZxV (a:LL) (b:Bool):g55 a b =
 (ZhD Zr a b 0):=by kernel_rfl
noncomputable def F56:Fn:=⟨32,[2],[(2,[(0,.c (.slice 1)),(3,.c (.int .i64))])],[],0,[],[],Tryz.f56,[.c (.slice 1)],[.c (.bool)],[(51,F51.S)]⟩
theorem ZDC:F56.S.Ok Tryz.prog 56:=F56.ok Tryz.func56 (by kernel_rfl) ⟨Zuy,trivial⟩
noncomputable def g56 (a:LL):Option (Bool):=F56.S.g [.l a]
noncomputable def ZgB (k:Nat) (a:LL) (b:Int):Option (Bool):=F56.lp [0] 0 r0 k [.l a,.i b]
theorem ZjA (k:Nat) (b:LL) (a:Int):ZgB (k+1) b a =
 (if (cop .lss a (List.length b:Int)) then
 Zm b a [.int .i64] fun (c:Int)=>
 (g51 c).bind fun d=>
 if (!d) then
 some (false)
 else
 if (cop .gtr a 0) then
 Zm b a [.int .i64] fun (e:Int)=>
 Zm b (iop .sub .i64 a 1) [.int .i64] fun (f:Int)=>
 if (cop .leq e f) then
 some (false)
 else
 ZgB k b (iop .add .i64 a 1)
 else
 ZgB k b (iop .add .i64 a 1)
 else
 some (true)):=by kernel_rfl
theorem Zyb (a:LL):g56 a =
 (ZgB Zr a 0):=by kernel_rfl
noncomputable def F79:Fn:=⟨18,[4],[(2,[(0,.c (.slice 1)),(1,.c (.int .i64)),(5,.c (.int .i64))])],[],0,[],[],Tryz.f79,[.c (.slice 1),.c (.int .i64)],[.c (.bool)],[]⟩
theorem ZC0:F79.S.Ok Tryz.prog 79:=F79.ok Tryz.func79 (by kernel_rfl) trivial
noncomputable def g79 (a:LL) (b:Int):Option (Bool):=F79.S.g [.l a,.i b]
noncomputable def ZiR (k:Nat) (a:LL) (b c:Int):Option (Bool):=F79.lp [0] 0 r0 k [.l a,.i b,.i c]
theorem ZjT (k:Nat) (a:LL) (c b:Int):ZiR (k+1) a c b =
 (if (cop .lss b (List.length a:Int)) then
 Zm a b [.int .i64] fun (d:Int)=>
 if (cop .eql d c) then
 some (true)
 else
 ZiR k a c (iop .add .i64 b 1)
 else
 some (false)):=by kernel_rfl
theorem Zvf (a:LL) (b:Int):g79 a b =
 (ZiR Zr a b 0):=by kernel_rfl
noncomputable def F58:Fn:=⟨61,[2],[(4,[(1,.box [.int .i64,.slice 1,.slice 1]),(3,.c (.int .i64))]),(9,[(1,.box [.int .i64,.slice 1,.slice 1]),(4,.c (.int .i64))])],[],0,[],[],Tryz.f58,[.agg [.int .i64,.slice 1,.slice 1]],[.c (.bool)],[(50,F50.S),(51,F51.S),(79,F79.S)]⟩
theorem ZC8:F58.S.Ok Tryz.prog 58:=F58.ok Tryz.func58 (by kernel_rfl) ⟨ZDa,⟨Zuy,⟨ZC0,trivial⟩⟩⟩
noncomputable def g58 (a:Int) (b c:LL):Option (Bool):=F58.S.g [.i a,.l b,.l c]
noncomputable def Zi9 (k:Nat) (a:Int) (b c:LL) (d:Int):Option (Bool):=F58.lp [0,1,1,1,0,1,0] 0 r0 k [.i a,.l b,.l c,.i d]
theorem Zk0 (k:Nat) (c:Int) (d a:LL) (b:Int):Zi9 (k+1) c d a b =
 (if (cop .lss b (List.length a:Int)) then
 Zm a b [.int .i64] fun (e:Int)=>
 (g51 e).bind fun f=>
 if (!f) then
 some (false)
 else
 Zi9 k c d a (iop .add .i64 b 1)
 else
 some (true)):=by kernel_rfl
noncomputable def ZiU (k:Nat) (a:Int) (b c:LL) (d:Int):Option (Bool):=F58.lp [0,1,1,1,0] 0 r0 k [.i a,.l b,.l c,.i d]
theorem ZkP (k:Nat) (c:Int) (a d:LL) (b:Int):ZiU (k+1) c a d b =
 (if (cop .lss b (List.length a:Int)) then
 Zm a b [.int .i64] fun (e:Int)=>
 (g51 e).bind fun f=>
 if (!f) then
 some (false)
 else
 ZE ((0:Int)≤b)<|
 ZE ((b:Int)≤(List.length a:Int))<|
 Zm a b [.int .i64] fun (g:Int)=>
 (g79 (List.take (Int.toNat b) a) g).bind fun h=>
 if h then
 some (false)
 else
 ZiU k c a d (iop .add .i64 b 1)
 else
 Zi9 Zr c a d 0):=by kernel_rfl
theorem Zx2 (a:Int) (b c:LL):g58 a b c =
 ((g50 a).bind fun d=>
 if (!d) then
 some (false)
 else
 if (cop .gtr (List.length b:Int) 32) then
 some (false)
 else
 if (cop .gtr (List.length c:Int) 16) then
 some (false)
 else
 ZiU Zr a b c 0):=by kernel_rfl
noncomputable def F81:Fn:=⟨8,[2],[],[],0,[],[],Tryz.f81,[.agg hs11],[.c (.bool)],[]⟩
theorem ZBZ:F81.S.Ok Tryz.prog 81:=F81.ok Tryz.func81 (by kernel_rfl) trivial
noncomputable def g81 (a c d:Int) (e:LL) (f h j k m n:Int) (o:Bool) (p q r s:Int):Option (Bool):=F81.S.g [.i a,.i c,.i d,.l e,.i f,.i h,.i j,.i k,.i m,.i n,.b o,.i p,.i q,.i r,.i s]
theorem ZnK (a b c:Int) (d:LL) (e f g h i j:Int) (k:Bool) (l m n o:Int):g81 a b c d e f g h i j k l m n o =
 (some (((cop .eql a 0)&&((cop .eql b 0)&&((cop .eql c 0)&&true))))):=by kernel_rfl
noncomputable def Zwg:Fn:=⟨29,[4],[(2,[(0,.c (.slice 15)),(3,.box [.int .i64,.int .i64,.int .i64]),(5,.c (.int .i64))])],[],0,[],[],Tryz.f184,[.c (.slice 15),.agg [.int .i64,.int .i64,.int .i64]],[.c (.int .i64)],[(81,F81.S)]⟩
theorem ZCg:Zwg.S.Ok Tryz.prog 184:=Zwg.ok Tryz.func184 (by kernel_rfl) ⟨ZBZ,trivial⟩
noncomputable def Zyx (a:LL) (b c d:Int):Option (Int):=Zwg.S.g [.l a,.i b,.i c,.i d]
noncomputable def ZdL (k:Nat) (a:LL) (b c d e:Int):Option (Int):=Zwg.lp [0] 0 r0 k [.l a,.i b,.i c,.i d,.i e]
theorem ZgF (k:Nat) (c:LL) (d e f b:Int):ZdL (k+1) c d e f b =
 (if (cop .lss b (List.length c:Int)) then
 Zm c b hs11 fun (a:Qt21)=>
 (g81 a.1 a.2.1 a.2.2.1 a.2.2.2.1 a.2.2.2.2.1 a.2.2.2.2.2.1 a.2.2.2.2.2.2.1 a.2.2.2.2.2.2.2.1 a.2.2.2.2.2.2.2.2.1 a.2.2.2.2.2.2.2.2.2.1 a.2.2.2.2.2.2.2.2.2.2.1 a.2.2.2.2.2.2.2.2.2.2.2.1 (d4 (d8 a)).1 (d4 (d8 a)).2.1 (d2 (d4 (d8 a)))).bind fun h=>
 if (!h) then
 Zm c b hs11 fun (g:Qt21)=>
 if ((cop .eql g.1 d)&&((cop .eql g.2.1 e)&&((cop .eql g.2.2.1 f)&&true))) then
 some (b)
 else
 ZdL k c d e f (iop .add .i64 b 1)
 else
 ZdL k c d e f (iop .add .i64 b 1)
 else
 some ((-1))):=by kernel_rfl
theorem ZtO (a:LL) (b c d:Int):Zyx a b c d =
 (ZdL Zr a b c d 0):=by kernel_rfl
noncomputable def ZvG:Fn:=⟨70,[2],[(4,[(0,.c (.slice 15)),(3,.c (.int .i64))])],[],0,[],[],Tryz.f129,[.c (.slice 15)],[.c (.bool)],[(128,Zrv.S),(81,F81.S),(127,Zo5.S),(61,F61.S),(184,Zwg.S)]⟩
theorem ZzV:ZvG.S.Ok Tryz.prog 129:=ZvG.ok Tryz.func129 (by kernel_rfl) ⟨ZmD,⟨ZBZ,⟨Zlp,⟨ZuM,⟨ZCg,trivial⟩⟩⟩⟩⟩
noncomputable def ZAa (a:LL):Option (Bool):=ZvG.S.g [.l a]
noncomputable def WX (k:Nat) (a:LL) (b:Int):Option (Bool):=ZvG.lp [1,0] 0 r0 k [.l a,.i b]
theorem Zh1 (k:Nat) (b:LL) (c:Int):WX (k+1) b c =
 (if (cop .lss c (List.length b:Int)) then
 Zm b c hs11 fun (a:Qt21)=>
 if (cop .lss a.2.2.2.2.2.2.2.2.2.2.2.1 0) then
 some (false)
 else
 if (cop .gtr a.2.2.2.2.2.2.2.2.2.2.2.1 1073741824) then
 some (false)
 else
 if (!((cop .eql (d4 (d8 a)).1 0)&&((cop .eql (d4 (d8 a)).2.1 0)&&((cop .eql (d2 (d4 (d8 a))) 0)&&true)))) then
 (Zq6 (d4 (d8 a)).1 (d4 (d8 a)).2.1 (d2 (d4 (d8 a)))).bind fun f=>
 if (!f) then
 some (false)
 else
 if (cop .neq (d2 (d4 (d8 a))) 0) then
 some (false)
 else
 (g81 a.1 a.2.1 a.2.2.1 a.2.2.2.1 a.2.2.2.2.1 a.2.2.2.2.2.1 a.2.2.2.2.2.2.1 a.2.2.2.2.2.2.2.1 a.2.2.2.2.2.2.2.2.1 a.2.2.2.2.2.2.2.2.2.1 a.2.2.2.2.2.2.2.2.2.2.1 a.2.2.2.2.2.2.2.2.2.2.2.1 (d4 (d8 a)).1 (d4 (d8 a)).2.1 (d2 (d4 (d8 a)))).bind fun d=>
 if d then
 (Zmy a.1 a.2.1 a.2.2.1 a.2.2.2.1 a.2.2.2.2.1 a.2.2.2.2.2.1 a.2.2.2.2.2.2.1 a.2.2.2.2.2.2.2.1 a.2.2.2.2.2.2.2.2.1 a.2.2.2.2.2.2.2.2.2.1 a.2.2.2.2.2.2.2.2.2.2.1 0 0 0 E0 0 0 0 0 0 0 false).bind fun e=>
 if (!e) then
 some (false)
 else
 if (!((cop .eql (d4 (d8 a)).1 0)&&((cop .eql (d4 (d8 a)).2.1 0)&&((cop .eql (d2 (d4 (d8 a))) 0)&&true)))) then
 some (false)
 else
 WX k b (iop .add .i64 c 1)
 else
 (g61 a.1 a.2.1 a.2.2.1 a.2.2.2.1 a.2.2.2.2.1 a.2.2.2.2.2.1 a.2.2.2.2.2.2.1 a.2.2.2.2.2.2.2.1 a.2.2.2.2.2.2.2.2.1 a.2.2.2.2.2.2.2.2.2.1 a.2.2.2.2.2.2.2.2.2.2.1).bind fun e=>
 if (!e) then
 some (false)
 else
 (Zyx b a.1 a.2.1 a.2.2.1).bind fun g=>
 if (cop .neq g c) then
 some (false)
 else
 WX k b (iop .add .i64 c 1)
 else
 (g81 a.1 a.2.1 a.2.2.1 a.2.2.2.1 a.2.2.2.2.1 a.2.2.2.2.2.1 a.2.2.2.2.2.2.1 a.2.2.2.2.2.2.2.1 a.2.2.2.2.2.2.2.2.1 a.2.2.2.2.2.2.2.2.2.1 a.2.2.2.2.2.2.2.2.2.2.1 a.2.2.2.2.2.2.2.2.2.2.2.1 (d4 (d8 a)).1 (d4 (d8 a)).2.1 (d2 (d4 (d8 a)))).bind fun f=>
 if f then
 (Zmy a.1 a.2.1 a.2.2.1 a.2.2.2.1 a.2.2.2.2.1 a.2.2.2.2.2.1 a.2.2.2.2.2.2.1 a.2.2.2.2.2.2.2.1 a.2.2.2.2.2.2.2.2.1 a.2.2.2.2.2.2.2.2.2.1 a.2.2.2.2.2.2.2.2.2.2.1 0 0 0 E0 0 0 0 0 0 0 false).bind fun d=>
 if (!d) then
 some (false)
 else
 if (!((cop .eql (d4 (d8 a)).1 0)&&((cop .eql (d4 (d8 a)).2.1 0)&&((cop .eql (d2 (d4 (d8 a))) 0)&&true)))) then
 some (false)
 else
 WX k b (iop .add .i64 c 1)
 else
 (g61 a.1 a.2.1 a.2.2.1 a.2.2.2.1 a.2.2.2.2.1 a.2.2.2.2.2.1 a.2.2.2.2.2.2.1 a.2.2.2.2.2.2.2.1 a.2.2.2.2.2.2.2.2.1 a.2.2.2.2.2.2.2.2.2.1 a.2.2.2.2.2.2.2.2.2.2.1).bind fun d=>
 if (!d) then
 some (false)
 else
 (Zyx b a.1 a.2.1 a.2.2.1).bind fun e=>
 if (cop .neq e c) then
 some (false)
 else
 WX k b (iop .add .i64 c 1)
 else
 some (true)):=by kernel_rfl
theorem Zr7 (a:LL):ZAa a =
 (if (cop .gtr (List.length a:Int) 64) then
 some (false)
 else
 WX Zr a 0):=by kernel_rfl
noncomputable def F82:Fn:=⟨30,[4],[],[],0,[],[],Tryz.f82,[.agg [.int .i64,.int .i64,.int .i64],.agg [.int .i64,.int .i64,.int .i64]],[.c (.bool)],[]⟩
theorem ZzG:F82.S.Ok Tryz.prog 82:=F82.ok Tryz.func82 (by kernel_rfl) trivial
noncomputable def g82 (a b c d e f:Int):Option (Bool):=F82.S.g [.i a,.i b,.i c,.i d,.i e,.i f]
theorem Zvn (a b e c d f:Int):g82 a b e c d f =
 (if (cop .neq a c) then
 some ((cop .lss a c))
 else
 if (cop .neq b d) then
 some ((cop .lss b d))
 else
 some ((cop .lss e f))):=by kernel_rfl
noncomputable def F59:Fn:=⟨186,[2],[(4,[(1,.box hs30),(3,.c (.int .i64))]),(9,[(1,.box hs30),(4,.c (.int .i64))]),(15,[(1,.box hs30),(6,.c (.int .i64))]),(21,[(1,.box hs30),(8,.c (.int .i64))])],[],0,[],[],Tryz.f59,[.agg hs30],[.c (.bool)],[(129,ZvG.S),(55,F55.S),(52,F52.S),(82,F82.S),(62,F62.S),(53,F53.S),(54,F54.S),(51,F51.S),(61,F61.S)]⟩
theorem ZCS:F59.S.Ok Tryz.prog 59:=F59.ok Tryz.func59 (by kernel_rfl) ⟨ZzV,⟨ZDb,⟨ZDo,⟨ZzG,⟨Zy7,⟨ZAu,⟨ZDi,⟨Zuy,⟨ZuM,trivial⟩⟩⟩⟩⟩⟩⟩⟩⟩
noncomputable def g59 (a b c d e f:LL):Option (Bool):=F59.S.g [.l a,.l b,.l c,.l d,.l e,.l f]
noncomputable def Zdy (k:Nat) (a b c d e f:LL) (g:Int):Option (Bool):=F59.lp [0,1,0,1,0,1,0,1,0,1,0] 0 r0 k [.l a,.l b,.l c,.l d,.l e,.l f,.i g]
theorem ZkC (k:Nat) (d e f g c h:LL) (b:Int):Zdy (k+1) d e f g c h b =
 (if (cop .lss b (List.length c:Int)) then
 Zm c b hs12 fun (a:Qt25)=>
 (g51 a.1).bind fun j=>
 if (!j) then
 some (false)
 else
 if (cop .lss a.2.1 0) then
 some (false)
 else
 if (cop .geq a.2.1 64) then
 some (false)
 else
 (g61 a.2.2.1 a.2.2.2.1 a.2.2.2.2.1 a.2.2.2.2.2.1 a.2.2.2.2.2.2.1 a.2.2.2.2.2.2.2.1 a.2.2.2.2.2.2.2.2.1 a.2.2.2.2.2.2.2.2.2.1 a.2.2.2.2.2.2.2.2.2.2.1 a.2.2.2.2.2.2.2.2.2.2.2.1 (d4 (d8 a))).bind fun l=>
 if (!l) then
 some (false)
 else
 if (cop .gtr b 0) then
 Zm c (iop .sub .i64 b 1) hs12 fun (i:Qt25)=>
 (g82 i.2.2.1 i.2.2.2.1 i.2.2.2.2.1 a.2.2.1 a.2.2.2.1 a.2.2.2.2.1).bind fun m=>
 if (!m) then
 some (false)
 else
 Zdy k d e f g c h (iop .add .i64 b 1)
 else
 Zdy k d e f g c h (iop .add .i64 b 1)
 else
 some (true)):=by kernel_rfl
noncomputable def ZdF (k:Nat) (a b c d e f:LL) (g:Int):Option (Bool):=F59.lp [0,1,0,1,0,1,0,1,0] 0 r0 k [.l a,.l b,.l c,.l d,.l e,.l f,.i g]
theorem Zkb (k:Nat) (c d e a f g:LL) (b:Int):ZdF (k+1) c d e a f g b =
 (if (cop .lss b (List.length a:Int)) then
 Zm a b [.int .i64,.int .i64] fun (h:Int×Int)=>
 if (cop .lss h.1 1) then
 some (false)
 else
 if (cop .gtr h.1 1073741824) then
 some (false)
 else
 (g54 h.2).bind fun i=>
 if (!i) then
 some (false)
 else
 if (cop .gtr b 0) then
 Zm a (iop .sub .i64 b 1) [.int .i64,.int .i64] fun (j:Int×Int)=>
 if (cop .leq h.1 j.1) then
 some (false)
 else
 ZdF k c d e a f g (iop .add .i64 b 1)
 else
 ZdF k c d e a f g (iop .add .i64 b 1)
 else
 Zdy Zr c d e a f g 0):=by kernel_rfl
noncomputable def Zdu (k:Nat) (a b c d e f:LL) (g:Int):Option (Bool):=F59.lp [0,1,0,1,0,1,0] 0 r0 k [.l a,.l b,.l c,.l d,.l e,.l f,.i g]
theorem Zkt (k:Nat) (d e a f g h:LL) (b:Int):Zdu (k+1) d e a f g h b =
 (if (cop .lss b (List.length a:Int)) then
 Zm a b [.int .i64,.int .i64,.int .i64,.int .i64] fun (c:Int×Int×Int×Int)=>
 (g62 c.1).bind fun i=>
 if (!i) then
 some (false)
 else
 (g53 c.2.1 c.2.2.1 c.2.2.2).bind fun j=>
 if (!j) then
 some (false)
 else
 if (cop .gtr b 0) then
 Zm a (iop .sub .i64 b 1) [.int .i64,.int .i64,.int .i64,.int .i64] fun (l:Int×Int×Int×Int)=>
 if (cop .leq c.1 l.1) then
 some (false)
 else
 Zdu k d e a f g h (iop .add .i64 b 1)
 else
 Zdu k d e a f g h (iop .add .i64 b 1)
 else
 ZdF Zr d e a f g h 0):=by kernel_rfl
noncomputable def ZfJ (k:Nat) (a b c d e f:LL) (g:Int):Option (Bool):=F59.lp [0,1,0,1,0] 0 r0 k [.l a,.l b,.l c,.l d,.l e,.l f,.i g]
theorem Zlg (k:Nat) (d b e f g h:LL) (c:Int):ZfJ (k+1) d b e f g h c =
 (if (cop .lss c (List.length b:Int)) then
 Zm b c hs6 fun (a:Qt10)=>
 (g52 a.1 a.2.1 a.2.2.1 a.2.2.2.1 a.2.2.2.2.1 a.2.2.2.2.2.1 a.2.2.2.2.2.2.1 a.2.2.2.2.2.2.2.1 a.2.2.2.2.2.2.2.2.1 a.2.2.2.2.2.2.2.2.2.1 a.2.2.2.2.2.2.2.2.2.2.1 a.2.2.2.2.2.2.2.2.2.2.2.1 (d4 (d8 a)).1 (d4 (d8 a)).2.1 (d2 (d4 (d8 a))).1 (d2 (d4 (d8 a))).2.1 (d16 a).1 (d16 a).2.1 (d2 (d16 a)).1 (d2 (d16 a)).2.1 (d4 (d16 a)).1 (d4 (d16 a)).2.1 (d2 (d4 (d16 a))).1 (d2 (d4 (d16 a))).2.1 (d8 (d16 a)).1 (d8 (d16 a)).2.1 (d2 (d8 (d16 a))).1 (d2 (d8 (d16 a))).2).bind fun l=>
 if (!l) then
 some (false)
 else
 if (cop .gtr c 0) then
 Zm b (iop .sub .i64 c 1) hs6 fun (i:Qt10)=>
 Zm b c hs6 fun (j:Qt10)=>
 (g82 i.1 i.2.1 i.2.2.1 j.1 j.2.1 j.2.2.1).bind fun m=>
 if (!m) then
 some (false)
 else
 ZfJ k d b e f g h (iop .add .i64 c 1)
 else
 ZfJ k d b e f g h (iop .add .i64 c 1)
 else
 Zdu Zr d b e f g h 0):=by kernel_rfl
theorem ZuV (a c d e f b:LL):g59 a c d e f b =
 ((ZAa a).bind fun g=>
 if (!g) then
 some (false)
 else
 (g55 b true).bind fun h=>
 if (!h) then
 some (false)
 else
 ZfJ Zr a c d e f b 0):=by kernel_rfl
noncomputable def F57:Fn:=⟨26,[2],[],[],0,[],[],Tryz.f57,[.agg hs7],[.c (.bool)],[(51,F51.S),(58,F58.S),(59,F59.S)]⟩
theorem ZEy:F57.S.Ok Tryz.prog 57:=F57.ok Tryz.func57 (by kernel_rfl) ⟨Zuy,⟨ZC8,⟨ZCS,trivial⟩⟩⟩
noncomputable def g57 (a c:Int) (d e f h j k m n:LL) (o:Bool) (p:Int) (q r s t u v w x:LL):Option (Bool):=F57.S.g [.i a,.i c,.l d,.l e,.l f,.l h,.l j,.l k,.l m,.l n,.b o,.i p,.l q,.l r,.l s,.l t,.l u,.l v,.l w,.l x]
theorem ZxR (a b:Int) (c d e f g h i j:LL) (t:Bool) (k:Int) (l m n o p q r s:LL):g57 a b c d e f g h i j t k l m n o p q r s =
 ((g51 a).bind fun u=>
 if u then
 (g58 b c d).bind fun v=>
 if v then
 (g58 k l m).bind fun w=>
 if w then
 (g59 e f g h i j).bind fun x=>
 if x then
 (g59 n o p q r s).bind fun y=>
 some (y)
 else
 some (false)
 else
 some (false)
 else
 some (false)
 else
 some (false)):=by kernel_rfl
noncomputable def F60:Fn:=⟨29,[2],[(2,[(0,.c (.slice 2)),(3,.c (.int .i64))])],[],0,[],[],Tryz.f60,[.c (.slice 2)],[.c (.bool)],[(62,F62.S),(51,F51.S)]⟩
theorem ZEW:F60.S.Ok Tryz.prog 60:=F60.ok Tryz.func60 (by kernel_rfl) ⟨Zy7,⟨Zuy,trivial⟩⟩
noncomputable def g60 (a:LL):Option (Bool):=F60.S.g [.l a]
noncomputable def Ziv (k:Nat) (a:LL) (b:Int):Option (Bool):=F60.lp [0] 0 r0 k [.l a,.i b]
theorem Zle (k:Nat) (a:LL) (b:Int):Ziv (k+1) a b =
 (if (cop .lss b (List.length a:Int)) then
 Zm a b [.int .i64,.int .i64] fun (c:Int×Int)=>
 (g62 c.1).bind fun d=>
 if (!d) then
 some (false)
 else
 Zm a b [.int .i64,.int .i64] fun (e:Int×Int)=>
 (g51 e.2).bind fun f=>
 if (!f) then
 some (false)
 else
 Ziv k a (iop .add .i64 b 1)
 else
 some ((cop .leq (List.length a:Int) 16))):=by kernel_rfl
theorem Zu9 (a:LL):g60 a =
 (Ziv Zr a 0):=by kernel_rfl
noncomputable def F68:Fn:=⟨38,[4],[],[],0,[],[],Tryz.f68,[.agg hs6,.agg hs6],[.c (.bool)],[(127,Zo5.S)]⟩
theorem ZDd:F68.S.Ok Tryz.prog 68:=F68.ok Tryz.func68 (by kernel_rfl) ⟨Zlp,trivial⟩
noncomputable def g68 (a c d e f h j k m n o p q r s t u v w x:Int) (y:LL) (z A C D E G:Int) (H:Bool) (J K L M N O P Q R T U V W X Y Z aa ab ac ad:Int) (ae:LL) (af ag ah ai aj ak:Int) (al:Bool):Option (Bool):=F68.S.g [.i a,.i c,.i d,.i e,.i f,.i h,.i j,.i k,.i m,.i n,.i o,.i p,.i q,.i r,.i s,.i t,.i u,.i v,.i w,.i x,.l y,.i z,.i A,.i C,.i D,.i E,.i G,.b H,.i J,.i K,.i L,.i M,.i N,.i O,.i P,.i Q,.i R,.i T,.i U,.i V,.i W,.i X,.i Y,.i Z,.i aa,.i ab,.i ac,.i ad,.l ae,.i af,.i ag,.i ah,.i ai,.i aj,.i ak,.b al]
theorem Zve (a b c d e f g h i j k l m n o p q r s t:Int) (u:LL) (v w x y z A:Int) (C:Bool) (D E G H J K L M N O P Q R T U V W X Y Z:Int) (aa:LL) (ab ac ad ae af ag:Int) (ah:Bool):g68 a b c d e f g h i j k l m n o p q r s t u v w x y z A C D E G H J K L M N O P Q R T U V W X Y Z aa ab ac ad ae af ag ah =
 (if ((cop .eql a D)&&((cop .eql b E)&&((cop .eql c G)&&true))) then
 if ((cop .eql d H)&&((cop .eql e J)&&((cop .eql f K)&&((cop .eql g L)&&((cop .eql h M)&&((cop .eql i N)&&((cop .eql j O)&&((cop .eql k P)&&((cop .eql l Q)&&((cop .eql m R)&&((cop .eql n T)&&((cop .eql o U)&&true)))))))))))) then
 if (cop .eql p V) then
 if (cop .eql q W) then
 (Zmy r s t u v w x y z A C X Y Z aa ab ac ad ae af ag ah).bind fun ai=>
 some (ai)
 else
 some (false)
 else
 some (false)
 else
 some (false)
 else
 some (false)):=by kernel_rfl
noncomputable def F70:Fn:=⟨27,[4],[(4,[(0,.c (.slice 11)),(1,.c (.slice 11)),(5,.c (.int .i64))])],[],0,[],[],Tryz.f70,[.c (.slice 11),.c (.slice 11)],[.c (.bool)],[(127,Zo5.S)]⟩
theorem ZET:F70.S.Ok Tryz.prog 70:=F70.ok Tryz.func70 (by kernel_rfl) ⟨Zlp,trivial⟩
noncomputable def g70 (a b:LL):Option (Bool):=F70.S.g [.l a,.l b]
noncomputable def ZmE (k:Nat) (a b:LL) (c:Int):Option (Bool):=F70.lp [1,0] 0 r0 k [.l a,.l b,.i c]
theorem Zk5 (k:Nat) (d e:LL) (c:Int):ZmE (k+1) d e c =
 (if (cop .lss c (List.length d:Int)) then
 Zm d c hs16 fun (a:Qt31)=>
 Zm e c hs16 fun (b:Qt31)=>
 (Zmy a.1 a.2.1 a.2.2.1 a.2.2.2.1 a.2.2.2.2.1 a.2.2.2.2.2.1 a.2.2.2.2.2.2.1 a.2.2.2.2.2.2.2.1 a.2.2.2.2.2.2.2.2.1 a.2.2.2.2.2.2.2.2.2.1 a.2.2.2.2.2.2.2.2.2.2 b.1 b.2.1 b.2.2.1 b.2.2.2.1 b.2.2.2.2.1 b.2.2.2.2.2.1 b.2.2.2.2.2.2.1 b.2.2.2.2.2.2.2.1 b.2.2.2.2.2.2.2.2.1 b.2.2.2.2.2.2.2.2.2.1 b.2.2.2.2.2.2.2.2.2.2).bind fun f=>
 if (!f) then
 some (false)
 else
 ZmE k d e (iop .add .i64 c 1)
 else
 some (true)):=by kernel_rfl
theorem ZvA (a b:LL):g70 a b =
 (if (cop .neq (List.length a:Int) (List.length b:Int)) then
 some (false)
 else
 ZmE Zr a b 0):=by kernel_rfl
noncomputable def F71:Fn:=⟨26,[4],[(4,[(0,.c (.slice 1)),(1,.c (.slice 1)),(5,.c (.int .i64))])],[],0,[],[],Tryz.f71,[.c (.slice 1),.c (.slice 1)],[.c (.bool)],[]⟩
theorem ZCO:F71.S.Ok Tryz.prog 71:=F71.ok Tryz.func71 (by kernel_rfl) trivial
noncomputable def g71 (a b:LL):Option (Bool):=F71.S.g [.l a,.l b]
noncomputable def Zna (k:Nat) (a b:LL) (c:Int):Option (Bool):=F71.lp [1,0] 0 r0 k [.l a,.l b,.i c]
theorem Zj9 (k:Nat) (b c:LL) (a:Int):Zna (k+1) b c a =
 (if (cop .lss a (List.length b:Int)) then
 Zm b a [.int .i64] fun (d:Int)=>
 Zm c a [.int .i64] fun (e:Int)=>
 if (cop .neq d e) then
 some (false)
 else
 Zna k b c (iop .add .i64 a 1)
 else
 some (true)):=by kernel_rfl
theorem Zvk (a b:LL):g71 a b =
 (if (cop .neq (List.length a:Int) (List.length b:Int)) then
 some (false)
 else
 Zna Zr a b 0):=by kernel_rfl
noncomputable def F72:Fn:=⟨26,[4],[(4,[(0,.c (.slice 2)),(1,.c (.slice 2)),(5,.c (.int .i64))])],[],0,[],[],Tryz.f72,[.c (.slice 2),.c (.slice 2)],[.c (.bool)],[]⟩
theorem ZEs:F72.S.Ok Tryz.prog 72:=F72.ok Tryz.func72 (by kernel_rfl) trivial
noncomputable def g72 (a b:LL):Option (Bool):=F72.S.g [.l a,.l b]
noncomputable def Zol (k:Nat) (a b:LL) (c:Int):Option (Bool):=F72.lp [1,0] 0 r0 k [.l a,.l b,.i c]
theorem Zj1 (k:Nat) (b c:LL) (a:Int):Zol (k+1) b c a =
 (if (cop .lss a (List.length b:Int)) then
 Zm b a [.int .i64,.int .i64] fun (d:Int×Int)=>
 Zm c a [.int .i64,.int .i64] fun (e:Int×Int)=>
 if (!((cop .eql d.1 e.1)&&((cop .eql d.2 e.2)&&true))) then
 some (false)
 else
 Zol k b c (iop .add .i64 a 1)
 else
 some (true)):=by kernel_rfl
theorem ZxP (a b:LL):g72 a b =
 (if (cop .neq (List.length a:Int) (List.length b:Int)) then
 some (false)
 else
 Zol Zr a b 0):=by kernel_rfl
noncomputable def F73:Fn:=⟨24,[4],[],[],0,[],[],Tryz.f73,[.agg [.int .i64,.slice 1,.slice 1],.agg [.int .i64,.slice 1,.slice 1]],[.c (.bool)],[(71,F71.S)]⟩
theorem ZC4:F73.S.Ok Tryz.prog 73:=F73.ok Tryz.func73 (by kernel_rfl) ⟨ZCO,trivial⟩
noncomputable def g73 (a:Int) (b c:LL) (d:Int) (e f:LL):Option (Bool):=F73.S.g [.i a,.l b,.l c,.i d,.l e,.l f]
theorem Zu1 (a:Int) (b c:LL) (d:Int) (e f:LL):g73 a b c d e f =
 (if (cop .eql a d) then
 (g71 b e).bind fun g=>
 if g then
 (g71 c f).bind fun h=>
 some (h)
 else
 some (false)
 else
 some (false)):=by kernel_rfl
noncomputable def Zwn:Fn:=⟨55,[4],[(4,[(0,.c (.slice 15)),(1,.c (.slice 15)),(5,.c (.int .i64))])],[],0,[],[],Tryz.f151,[.c (.slice 15),.c (.slice 15)],[.c (.bool)],[(127,Zo5.S)]⟩
theorem ZB2:Zwn.S.Ok Tryz.prog 151:=Zwn.ok Tryz.func151 (by kernel_rfl) ⟨Zlp,trivial⟩
noncomputable def ZCc (a b:LL):Option (Bool):=Zwn.S.g [.l a,.l b]
noncomputable def Zhu (k:Nat) (a b:LL) (c:Int):Option (Bool):=Zwn.lp [1,0] 0 r0 k [.l a,.l b,.i c]
theorem Zgm (k:Nat) (d e:LL) (c:Int):Zhu (k+1) d e c =
 (if (cop .lss c (List.length d:Int)) then
 Zm d c hs11 fun (h:Qt21)=>
 Zm e c hs11 fun (i:Qt21)=>
 if (cop .neq h.2.2.2.2.2.2.2.2.2.2.2.1 i.2.2.2.2.2.2.2.2.2.2.2.1) then
 some (false)
 else
 Zm d c hs11 fun (f:Qt21)=>
 Zm e c hs11 fun (g:Qt21)=>
 if (!((cop .eql (d4 (d8 f)).1 (d4 (d8 g)).1)&&((cop .eql (d4 (d8 f)).2.1 (d4 (d8 g)).2.1)&&((cop .eql (d2 (d4 (d8 f))) (d2 (d4 (d8 g))))&&true)))) then
 some (false)
 else
 Zm d c hs11 fun (a:Qt21)=>
 Zm e c hs11 fun (b:Qt21)=>
 (Zmy a.1 a.2.1 a.2.2.1 a.2.2.2.1 a.2.2.2.2.1 a.2.2.2.2.2.1 a.2.2.2.2.2.2.1 a.2.2.2.2.2.2.2.1 a.2.2.2.2.2.2.2.2.1 a.2.2.2.2.2.2.2.2.2.1 a.2.2.2.2.2.2.2.2.2.2.1 b.1 b.2.1 b.2.2.1 b.2.2.2.1 b.2.2.2.2.1 b.2.2.2.2.2.1 b.2.2.2.2.2.2.1 b.2.2.2.2.2.2.2.1 b.2.2.2.2.2.2.2.2.1 b.2.2.2.2.2.2.2.2.2.1 b.2.2.2.2.2.2.2.2.2.2.1).bind fun j=>
 if (!j) then
 some (false)
 else
 Zhu k d e (iop .add .i64 c 1)
 else
 some (true)):=by kernel_rfl
theorem Zs4 (a b:LL):ZCc a b =
 (if (cop .neq (List.length a:Int) (List.length b:Int)) then
 some (false)
 else
 Zhu Zr a b 0):=by kernel_rfl
noncomputable def Zwl:Fn:=⟨27,[4],[(4,[(0,.c (.slice 28)),(1,.c (.slice 28)),(5,.c (.int .i64))])],[],0,[],[],Tryz.f152,[.c (.slice 28),.c (.slice 28)],[.c (.bool)],[(68,F68.S)]⟩
theorem ZzN:Zwl.S.Ok Tryz.prog 152:=Zwl.ok Tryz.func152 (by kernel_rfl) ⟨ZDd,trivial⟩
noncomputable def ZAH (a b:LL):Option (Bool):=Zwl.S.g [.l a,.l b]
noncomputable def Zhd (k:Nat) (a b:LL) (c:Int):Option (Bool):=Zwl.lp [1,0] 0 r0 k [.l a,.l b,.i c]
theorem Zia (k:Nat) (d e:LL) (c:Int):Zhd (k+1) d e c =
 (if (cop .lss c (List.length d:Int)) then
 Zm d c hs6 fun (a:Qt10)=>
 Zm e c hs6 fun (b:Qt10)=>
 (g68 a.1 a.2.1 a.2.2.1 a.2.2.2.1 a.2.2.2.2.1 a.2.2.2.2.2.1 a.2.2.2.2.2.2.1 a.2.2.2.2.2.2.2.1 a.2.2.2.2.2.2.2.2.1 a.2.2.2.2.2.2.2.2.2.1 a.2.2.2.2.2.2.2.2.2.2.1 a.2.2.2.2.2.2.2.2.2.2.2.1 (d4 (d8 a)).1 (d4 (d8 a)).2.1 (d2 (d4 (d8 a))).1 (d2 (d4 (d8 a))).2.1 (d16 a).1 (d16 a).2.1 (d2 (d16 a)).1 (d2 (d16 a)).2.1 (d4 (d16 a)).1 (d4 (d16 a)).2.1 (d2 (d4 (d16 a))).1 (d2 (d4 (d16 a))).2.1 (d8 (d16 a)).1 (d8 (d16 a)).2.1 (d2 (d8 (d16 a))).1 (d2 (d8 (d16 a))).2 b.1 b.2.1 b.2.2.1 b.2.2.2.1 b.2.2.2.2.1 b.2.2.2.2.2.1 b.2.2.2.2.2.2.1 b.2.2.2.2.2.2.2.1 b.2.2.2.2.2.2.2.2.1 b.2.2.2.2.2.2.2.2.2.1 b.2.2.2.2.2.2.2.2.2.2.1 b.2.2.2.2.2.2.2.2.2.2.2.1 (d4 (d8 b)).1 (d4 (d8 b)).2.1 (d2 (d4 (d8 b))).1 (d2 (d4 (d8 b))).2.1 (d16 b).1 (d16 b).2.1 (d2 (d16 b)).1 (d2 (d16 b)).2.1 (d4 (d16 b)).1 (d4 (d16 b)).2.1 (d2 (d4 (d16 b))).1 (d2 (d4 (d16 b))).2.1 (d8 (d16 b)).1 (d8 (d16 b)).2.1 (d2 (d8 (d16 b))).1 (d2 (d8 (d16 b))).2).bind fun f=>
 if (!f) then
 some (false)
 else
 Zhd k d e (iop .add .i64 c 1)
 else
 some (true)):=by kernel_rfl
theorem Ztb (a b:LL):ZAH a b =
 (if (cop .neq (List.length a:Int) (List.length b:Int)) then
 some (false)
 else
 Zhd Zr a b 0):=by kernel_rfl
noncomputable def ZwJ:Fn:=⟨26,[4],[(4,[(0,.c (.slice 4)),(1,.c (.slice 4)),(5,.c (.int .i64))])],[],0,[],[],Tryz.f153,[.c (.slice 4),.c (.slice 4)],[.c (.bool)],[]⟩
theorem ZB1:ZwJ.S.Ok Tryz.prog 153:=ZwJ.ok Tryz.func153 (by kernel_rfl) trivial
noncomputable def ZAV (a b:LL):Option (Bool):=ZwJ.S.g [.l a,.l b]
noncomputable def Zh2 (k:Nat) (a b:LL) (c:Int):Option (Bool):=ZwJ.lp [1,0] 0 r0 k [.l a,.l b,.i c]
theorem Zhi (k:Nat) (b e:LL) (a:Int):Zh2 (k+1) b e a =
 (if (cop .lss a (List.length b:Int)) then
 Zm b a [.int .i64,.int .i64,.int .i64,.int .i64] fun (c:Int×Int×Int×Int)=>
 Zm e a [.int .i64,.int .i64,.int .i64,.int .i64] fun (d:Int×Int×Int×Int)=>
 if (!((cop .eql c.1 d.1)&&((cop .eql c.2.1 d.2.1)&&((cop .eql c.2.2.1 d.2.2.1)&&((cop .eql c.2.2.2 d.2.2.2)&&true))))) then
 some (false)
 else
 Zh2 k b e (iop .add .i64 a 1)
 else
 some (true)):=by kernel_rfl
theorem Zt5 (a b:LL):ZAV a b =
 (if (cop .neq (List.length a:Int) (List.length b:Int)) then
 some (false)
 else
 Zh2 Zr a b 0):=by kernel_rfl
noncomputable def Zvx:Fn:=⟨26,[4],[(4,[(0,.c (.slice 2)),(1,.c (.slice 2)),(5,.c (.int .i64))])],[],0,[],[],Tryz.f154,[.c (.slice 2),.c (.slice 2)],[.c (.bool)],[]⟩
theorem ZB9:Zvx.S.Ok Tryz.prog 154:=Zvx.ok Tryz.func154 (by kernel_rfl) trivial
noncomputable def ZBq (a b:LL):Option (Bool):=Zvx.S.g [.l a,.l b]
noncomputable def Zhn (k:Nat) (a b:LL) (c:Int):Option (Bool):=Zvx.lp [1,0] 0 r0 k [.l a,.l b,.i c]
theorem Zgk (k:Nat) (b c:LL) (a:Int):Zhn (k+1) b c a =
 (if (cop .lss a (List.length b:Int)) then
 Zm b a [.int .i64,.int .i64] fun (d:Int×Int)=>
 Zm c a [.int .i64,.int .i64] fun (e:Int×Int)=>
 if (!((cop .eql d.1 e.1)&&((cop .eql d.2 e.2)&&true))) then
 some (false)
 else
 Zhn k b c (iop .add .i64 a 1)
 else
 some (true)):=by kernel_rfl
theorem Zr5 (a b:LL):ZBq a b =
 (if (cop .neq (List.length a:Int) (List.length b:Int)) then
 some (false)
 else
 Zhn Zr a b 0):=by kernel_rfl
noncomputable def ZwN:Fn:=⟨55,[4],[(4,[(0,.c (.slice 13)),(1,.c (.slice 13)),(5,.c (.int .i64))])],[],0,[],[],Tryz.f155,[.c (.slice 13),.c (.slice 13)],[.c (.bool)],[(127,Zo5.S)]⟩
theorem ZCK:ZwN.S.Ok Tryz.prog 155:=ZwN.ok Tryz.func155 (by kernel_rfl) ⟨Zlp,trivial⟩
noncomputable def ZBw (a b:LL):Option (Bool):=ZwN.S.g [.l a,.l b]
noncomputable def Zhf (k:Nat) (a b:LL) (c:Int):Option (Bool):=ZwN.lp [1,0] 0 r0 k [.l a,.l b,.i c]
theorem Zg7 (k:Nat) (d e:LL) (c:Int):Zhf (k+1) d e c =
 (if (cop .lss c (List.length d:Int)) then
 Zm d c hs12 fun (f:Qt25)=>
 Zm e c hs12 fun (g:Qt25)=>
 if (cop .neq f.1 g.1) then
 some (false)
 else
 Zm d c hs12 fun (h:Qt25)=>
 Zm e c hs12 fun (i:Qt25)=>
 if (cop .neq h.2.1 i.2.1) then
 some (false)
 else
 Zm d c hs12 fun (a:Qt25)=>
 Zm e c hs12 fun (b:Qt25)=>
 (Zmy a.2.2.1 a.2.2.2.1 a.2.2.2.2.1 a.2.2.2.2.2.1 a.2.2.2.2.2.2.1 a.2.2.2.2.2.2.2.1 a.2.2.2.2.2.2.2.2.1 a.2.2.2.2.2.2.2.2.2.1 a.2.2.2.2.2.2.2.2.2.2.1 a.2.2.2.2.2.2.2.2.2.2.2.1 (d4 (d8 a)) b.2.2.1 b.2.2.2.1 b.2.2.2.2.1 b.2.2.2.2.2.1 b.2.2.2.2.2.2.1 b.2.2.2.2.2.2.2.1 b.2.2.2.2.2.2.2.2.1 b.2.2.2.2.2.2.2.2.2.1 b.2.2.2.2.2.2.2.2.2.2.1 b.2.2.2.2.2.2.2.2.2.2.2.1 (d4 (d8 b))).bind fun j=>
 if (!j) then
 some (false)
 else
 Zhf k d e (iop .add .i64 c 1)
 else
 some (true)):=by kernel_rfl
theorem Ztx (a b:LL):ZBw a b =
 (if (cop .neq (List.length a:Int) (List.length b:Int)) then
 some (false)
 else
 Zhf Zr a b 0):=by kernel_rfl
noncomputable def F74:Fn:=⟨45,[4],[],[],0,[],[],Tryz.f74,[.agg hs30,.agg hs30],[.c (.bool)],[(151,Zwn.S),(152,Zwl.S),(153,ZwJ.S),(154,Zvx.S),(155,ZwN.S),(69,F69.S)]⟩
theorem ZDs:F74.S.Ok Tryz.prog 74:=F74.ok Tryz.func74 (by kernel_rfl) ⟨ZB2,⟨ZzN,⟨ZB1,⟨ZB9,⟨ZCK,⟨ZzZ,trivial⟩⟩⟩⟩⟩⟩
noncomputable def g74 (a b c d e f h i j k m n:LL):Option (Bool):=F74.S.g [.l a,.l b,.l c,.l d,.l e,.l f,.l h,.l i,.l j,.l k,.l m,.l n]
theorem Zwu (a b c d e f g h i j k l:LL):g74 a b c d e f g h i j k l =
 ((ZCc a g).bind fun m=>
 if m then
 (ZAH b h).bind fun n=>
 if n then
 (ZAV c i).bind fun o=>
 if o then
 (ZBq d j).bind fun p=>
 if p then
 (ZBw e k).bind fun q=>
 if q then
 (g69 f l).bind fun r=>
 some (r)
 else
 some (false)
 else
 some (false)
 else
 some (false)
 else
 some (false)
 else
 some (false)):=by kernel_rfl
noncomputable def F75:Fn:=⟨45,[4],[],[],0,[],[],Tryz.f75,[.agg hs7,.agg hs7],[.c (.bool)],[(73,F73.S),(74,F74.S)]⟩
theorem ZD7:F75.S.Ok Tryz.prog 75:=F75.ok Tryz.func75 (by kernel_rfl) ⟨ZC4,⟨ZDs,trivial⟩⟩
noncomputable def g75 (a c:Int) (d e f h j k m n:LL) (o:Bool) (p:Int) (q r s t u v w x:LL) (y z:Int) (A C D E G H J K:LL) (L:Bool) (M:Int) (N O P Q R T U V:LL):Option (Bool):=F75.S.g [.i a,.i c,.l d,.l e,.l f,.l h,.l j,.l k,.l m,.l n,.b o,.i p,.l q,.l r,.l s,.l t,.l u,.l v,.l w,.l x,.i y,.i z,.l A,.l C,.l D,.l E,.l G,.l H,.l J,.l K,.b L,.i M,.l N,.l O,.l P,.l Q,.l R,.l T,.l U,.l V]
theorem ZvX (a b:Int) (c d e f g h i j:LL) (k:Bool) (l:Int) (m n o p q r s t:LL) (u v:Int) (w x y z A C D E:LL) (G:Bool) (H:Int) (J K L M N O P Q:LL):g75 a b c d e f g h i j k l m n o p q r s t u v w x y z A C D E G H J K L M N O P Q =
 (if (cop .eql a u) then
 (g73 b c d v w x).bind fun R=>
 if R then
 (g74 e f g h i j y z A C D E).bind fun T=>
 if T then
 if (k == G) then
 (g73 l m n H J K).bind fun U=>
 if U then
 (g74 o p q r s t L M N O P Q).bind fun V=>
 some (V)
 else
 some (false)
 else
 some (false)
 else
 some (false)
 else
 some (false)
 else
 some (false)):=by kernel_rfl
noncomputable def F19:Fn:=⟨134,[4],[],[],0,[],[],Tryz.f19,[.agg hs0,.agg hs0],[.c (.bool)],[(68,F68.S),(69,F69.S),(70,F70.S),(71,F71.S),(72,F72.S),(73,F73.S),(74,F74.S),(75,F75.S)]⟩
theorem ZDm:F19.S.Ok Tryz.prog 19:=F19.ok Tryz.func19 (by kernel_rfl) ⟨ZDd,⟨ZzZ,⟨ZET,⟨ZCO,⟨ZEs,⟨ZC4,⟨ZDs,⟨ZD7,trivial⟩⟩⟩⟩⟩⟩⟩⟩
noncomputable def g19 (a c d e f h j k m n o:Int) (p:Bool) (q r s t u v w x y z A C D E G H J K L M:Int) (N:LL) (O P Q R T U:Int) (V:Bool) (W X Y Z:LL) (aa ab:Int) (ac ad ae af ag ah ai aj:LL) (ak al:Int) (am an ao ap aq ar aZ au:LL) (av:Bool) (aw:Int) (ax ay az a0 a1 a2 a3 a4:LL) (a5 a6 a7 a8 a9 ba bb bc bd be bf:Int) (bg:Bool) (bh bi bj bk bl bm bn bo bp bq br bs bt bu bv bw bx bz b0 b1:Int) (b2:LL) (b3 b4 b5 b6 b7 b8:Int) (b9:Bool) (ca cb cc cd:LL) (ce cf:Int) (cg ch ci cj ck cl cm cn:LL) (co cp:Int) (cq cr cs ct cu cv cw cx:LL) (cy:Bool) (cz:Int) (c0 c1 c2 c3 c4 c5 c6 c7:LL):Option (Bool):=F19.S.g [.i a,.i c,.i d,.i e,.i f,.i h,.i j,.i k,.i m,.i n,.i o,.b p,.i q,.i r,.i s,.i t,.i u,.i v,.i w,.i x,.i y,.i z,.i A,.i C,.i D,.i E,.i G,.i H,.i J,.i K,.i L,.i M,.l N,.i O,.i P,.i Q,.i R,.i T,.i U,.b V,.l W,.l X,.l Y,.l Z,.i aa,.i ab,.l ac,.l ad,.l ae,.l af,.l ag,.l ah,.l ai,.l aj,.i ak,.i al,.l am,.l an,.l ao,.l ap,.l aq,.l ar,.l aZ,.l au,.b av,.i aw,.l ax,.l ay,.l az,.l a0,.l a1,.l a2,.l a3,.l a4,.i a5,.i a6,.i a7,.i a8,.i a9,.i ba,.i bb,.i bc,.i bd,.i be,.i bf,.b bg,.i bh,.i bi,.i bj,.i bk,.i bl,.i bm,.i bn,.i bo,.i bp,.i bq,.i br,.i bs,.i bt,.i bu,.i bv,.i bw,.i bx,.i bz,.i b0,.i b1,.l b2,.i b3,.i b4,.i b5,.i b6,.i b7,.i b8,.b b9,.l ca,.l cb,.l cc,.l cd,.i ce,.i cf,.l cg,.l ch,.l ci,.l cj,.l ck,.l cl,.l cm,.l cn,.i co,.i cp,.l cq,.l cr,.l cs,.l ct,.l cu,.l cv,.l cw,.l cx,.b cy,.i cz,.l c0,.l c1,.l c2,.l c3,.l c4,.l c5,.l c6,.l c7]
theorem Zxn (a b c d e f g h i j k:Int) (l:Bool) (m n o p q r s t u v w x y z A C D E G H:Int) (J:LL) (K L M N O P:Int) (Q:Bool) (R T U V:LL) (W X:Int) (Y Z aa ab ac ad ae af:LL) (ag ah:Int) (ai aj ak al am an ao ap:LL) (aq:Bool) (ar:Int) (aZ au av aw ax ay az a0:LL) (a1 a2 a3 a4 a5 a6 a7 a8 a9 ba bb:Int) (bc:Bool) (bd be bf bg bh bi bj bk bl bm bn bo bp bq br bs bt bu bv bw:Int) (bx:LL) (bz b0 b1 b2 b3 b4:Int) (b5:Bool) (b6 b7 b8 b9:LL) (ca cb:Int) (cc cd ce cf cg ch ci cj:LL) (ck cl:Int) (cm cn co cp cq cr cs ct:LL) (cu:Bool) (cv:Int) (cw cx cy cz c0 c1 c2 c3:LL):g19 a b c d e f g h i j k l m n o p q r s t u v w x y z A C D E G H J K L M N O P Q R T U V W X Y Z aa ab ac ad ae af ag ah ai aj ak al am an ao ap aq ar aZ au av aw ax ay az a0 a1 a2 a3 a4 a5 a6 a7 a8 a9 ba bb bc bd be bf bg bh bi bj bk bl bm bn bo bp bq br bs bt bu bv bw bx bz b0 b1 b2 b3 b4 b5 b6 b7 b8 b9 ca cb cc cd ce cf cg ch ci cj ck cl cm cn co cp cq cr cs ct cu cv cw cx cy cz c0 c1 c2 c3 =
 (if (cop .neq a a1) then
 some (false)
 else
 if (cop .neq b a2) then
 some (false)
 else
 if (cop .neq c a3) then
 some (false)
 else
 if (cop .neq d a4) then
 some (false)
 else
 if (cop .neq e a5) then
 some (false)
 else
 if (cop .neq f a6) then
 some (false)
 else
 if (cop .neq g a7) then
 some (false)
 else
 if (!((cop .eql h a8)&&((cop .eql i a9)&&((cop .eql j ba)&&true)))) then
 some (false)
 else
 if (cop .neq k bb) then
 some (false)
 else
 if (!(l == bc)) then
 some (false)
 else
 if (cop .neq W ca) then
 some (false)
 else
 (g68 m n o p q r s t u v w x y z A C D E G H J K L M N O P Q bd be bf bg bh bi bj bk bl bm bn bo bp bq br bs bt bu bv bw bx bz b0 b1 b2 b3 b4 b5).bind fun c4=>
 if c4 then
 (g69 R b6).bind fun c5=>
 if c5 then
 (g70 T b7).bind fun c6=>
 if c6 then
 (g71 U b8).bind fun c7=>
 if c7 then
 (g72 V b9).bind fun c8=>
 if c8 then
 (g73 X Y Z cb cc cd).bind fun c9=>
 if c9 then
 (g74 aa ab ac ad ae af ce cf cg ch ci cj).bind fun da=>
 if da then
 (g75 ag ah ai aj ak al am an ao ap aq ar aZ au av aw ax ay az a0 ck cl cm cn co cp cq cr cs ct cu cv cw cx cy cz c0 c1 c2 c3).bind fun db=>
 some (db)
 else
 some (false)
 else
 some (false)
 else
 some (false)
 else
 some (false)
 else
 some (false)
 else
 some (false)
 else
 some (false)):=by kernel_rfl
noncomputable def F16:Fn:=⟨295,[2],[(60,[(1,.box hs0),(3,.box hs0),(4,.c (.bool)),(5,.c (.int .i64))])],[],0,[],[],Tryz.f16,[.agg hs0],[.c (.bool)],[(50,F50.S),(51,F51.S),(52,F52.S),(61,F61.S),(62,F62.S),(19,F19.S),(53,F53.S),(54,F54.S),(55,F55.S),(56,F56.S),(57,F57.S),(58,F58.S),(59,F59.S),(60,F60.S)]⟩
theorem ZCZ:F16.S.Ok Tryz.prog 16:=F16.ok Tryz.func16 (by kernel_rfl) ⟨ZDa,⟨Zuy,⟨ZDo,⟨ZuM,⟨Zy7,⟨ZDm,⟨ZAu,⟨ZDi,⟨ZDb,⟨ZDC,⟨ZEy,⟨ZC8,⟨ZCS,⟨ZEW,trivial⟩⟩⟩⟩⟩⟩⟩⟩⟩⟩⟩⟩⟩⟩
noncomputable def g16 (a c d e f h j k m n o:Int) (p:Bool) (q r s t u v w x y z A C D E G H J K L M:Int) (N:LL) (O P Q R T U:Int) (V:Bool) (W X Y Z:LL) (aa ab:Int) (ac ad ae af ag ah ai aj:LL) (ak al:Int) (am an ao ap aq ar aZ au:LL) (av:Bool) (aw:Int) (ax ay az a0 a1 a2 a3 a4:LL):Option (Bool):=F16.S.g [.i a,.i c,.i d,.i e,.i f,.i h,.i j,.i k,.i m,.i n,.i o,.b p,.i q,.i r,.i s,.i t,.i u,.i v,.i w,.i x,.i y,.i z,.i A,.i C,.i D,.i E,.i G,.i H,.i J,.i K,.i L,.i M,.l N,.i O,.i P,.i Q,.i R,.i T,.i U,.b V,.l W,.l X,.l Y,.l Z,.i aa,.i ab,.l ac,.l ad,.l ae,.l af,.l ag,.l ah,.l ai,.l aj,.i ak,.i al,.l am,.l an,.l ao,.l ap,.l aq,.l ar,.l aZ,.l au,.b av,.i aw,.l ax,.l ay,.l az,.l a0,.l a1,.l a2,.l a3,.l a4]
noncomputable def YL (k:Nat) (a c d e f g h j m n o:Int) (p:Bool) (q r s t u v w x y z A C D E G H J K L M:Int) (N:LL) (O P Q R T U:Int) (V:Bool) (W X Y Z:LL) (aa ab:Int) (ac ad ae af ag ah ai aj:LL) (ak al:Int) (am an ao ap aq ar aZ au:LL) (av:Bool) (aw:Int) (ax ay az a0 a1 a2 a3 a4:LL) (a5 a6 a7 a8 a9 ba bb bc bd be bf:Int) (bg:Bool) (bh bi bj bk bl bm bn bo bp bq br bs bt bu bv bw bx bz b0 b1:Int) (b2:LL) (b3 b4 b5 b6 b7 b8:Int) (b9:Bool) (ca cb cc cd:LL) (ce cf:Int) (cg ch ci cj ck cl cm cn:LL) (co cp:Int) (cq cr cs ct cu cv cw cx:LL) (cy:Bool) (cz:Int) (c0 c1 c2 c3 c4 c5 c6 c7:LL) (c8:Bool) (c9:Int):Option (Bool):=F16.lp [1,1,0,1,0,1,0,1,0,2] 0 r0 k [.i a,.i c,.i d,.i e,.i f,.i g,.i h,.i j,.i m,.i n,.i o,.b p,.i q,.i r,.i s,.i t,.i u,.i v,.i w,.i x,.i y,.i z,.i A,.i C,.i D,.i E,.i G,.i H,.i J,.i K,.i L,.i M,.l N,.i O,.i P,.i Q,.i R,.i T,.i U,.b V,.l W,.l X,.l Y,.l Z,.i aa,.i ab,.l ac,.l ad,.l ae,.l af,.l ag,.l ah,.l ai,.l aj,.i ak,.i al,.l am,.l an,.l ao,.l ap,.l aq,.l ar,.l aZ,.l au,.b av,.i aw,.l ax,.l ay,.l az,.l a0,.l a1,.l a2,.l a3,.l a4,.i a5,.i a6,.i a7,.i a8,.i a9,.i ba,.i bb,.i bc,.i bd,.i be,.i bf,.b bg,.i bh,.i bi,.i bj,.i bk,.i bl,.i bm,.i bn,.i bo,.i bp,.i bq,.i br,.i bs,.i bt,.i bu,.i bv,.i bw,.i bx,.i bz,.i b0,.i b1,.l b2,.i b3,.i b4,.i b5,.i b6,.i b7,.i b8,.b b9,.l ca,.l cb,.l cc,.l cd,.i ce,.i cf,.l cg,.l ch,.l ci,.l cj,.l ck,.l cl,.l cm,.l cn,.i co,.i cp,.l cq,.l cr,.l cs,.l ct,.l cu,.l cv,.l cw,.l cx,.b cy,.i cz,.l c0,.l c1,.l c2,.l c3,.l c4,.l c5,.l c6,.l c7,.b c8,.i c9]
theorem ZjZ (k:Nat) (d e f g h b i j l m n:Int) (o:Bool) (p q r s t u v w x y z A C D E G H J K L:Int) (M:LL) (N O P Q R T:Int) (U:Bool) (V c W X:LL) (Y Z:Int) (aa ab ac ad ae af ag ah:LL) (ai aj:Int) (ak al am an ao ap aq ar:LL) (aZ:Bool) (au:Int) (av aw ax ay az a0 a1 a2:LL) (a3 a4 a5 a6 a7 a8 a9 ba bb bc bd:Int) (be:Bool) (bf bg bh bi bj bk bl bm bn bo bp bq br bs bt bu bv bw bx bz:Int) (b0:LL) (b1 b2 b3 b4 b5 b6:Int) (b7:Bool) (b8 b9 ca cb:LL) (cc cd:Int) (ce cf cg ch ci cj ck cl:LL) (cm cn:Int) (co cp cq cr cs ct cu cv:LL) (cw:Bool) (cx:Int) (cy cz c0 c1 c2 c3 c4 c5:LL) (c6:Bool) (c7:Int):YL (k+1) d e f g h b i j l m n o p q r s t u v w x y z A C D E G H J K L M N O P Q R T U V c W X Y Z aa ab ac ad ae af ag ah ai aj ak al am an ao ap aq ar aZ au av aw ax ay az a0 a1 a2 a3 a4 a5 a6 a7 a8 a9 ba bb bc bd be bf bg bh bi bj bk bl bm bn bo bp bq br bs bt bu bv bw bx bz b0 b1 b2 b3 b4 b5 b6 b7 b8 b9 ca cb cc cd ce cf cg ch ci cj ck cl cm cn co cp cq cr cs ct cu cv cw cx cy cz c0 c1 c2 c3 c4 c5 c6 c7 =
 (if (cop .lss c7 (List.length c:Int)) then
 if c6 then
 Zm c c7 hs16 fun (a:Qt31)=>
 (g61 a.1 a.2.1 a.2.2.1 a.2.2.2.1 a.2.2.2.2.1 a.2.2.2.2.2.1 a.2.2.2.2.2.2.1 a.2.2.2.2.2.2.2.1 a.2.2.2.2.2.2.2.2.1 a.2.2.2.2.2.2.2.2.2.1 a.2.2.2.2.2.2.2.2.2.2).bind fun c9=>
 YL k d e f g h b i j l m n o p q r s t u v w x y z A C D E G H J K L M N O P Q R T U V c W X Y Z aa ab ac ad ae af ag ah ai aj ak al am an ao ap aq ar aZ au av aw ax ay az a0 a1 a2 a3 a4 a5 a6 a7 a8 a9 ba bb bc bd be bf bg bh bi bj bk bl bm bn bo bp bq br bs bt bu bv bw bx bz b0 b1 b2 b3 b4 b5 b6 b7 b8 b9 ca cb cc cd ce cf cg ch ci cj ck cl cm cn co cp cq cr cs ct cu cv cw cx cy cz c0 c1 c2 c3 c4 c5 c9 (iop .add .i64 c7 1)
 else
 if c6 then
 (g62 b).bind fun a=>
 if a then
 (g19 d e f g h b i j l m n o p q r s t u v w x y z A C D E G H J K L M N O P Q R T U V c W X Y Z aa ab ac ad ae af ag ah ai aj ak al am an ao ap aq ar aZ au av aw ax ay az a0 a1 a2 a3 a4 a5 a6 a7 a8 a9 ba bb bc bd be bf bg bh bi bj bk bl bm bn bo bp bq br bs bt bu bv bw bx bz b0 b1 b2 b3 b4 b5 b6 b7 b8 b9 ca cb cc cd ce cf cg ch ci cj ck cl cm cn co cp cq cr cs ct cu cv cw cx cy cz c0 c1 c2 c3 c4 c5).bind fun c8=>
 some (c8)
 else
 some (false)
 else
 some (false)
 else
 if c6 then
 (g62 b).bind fun a=>
 if a then
 (g19 d e f g h b i j l m n o p q r s t u v w x y z A C D E G H J K L M N O P Q R T U V c W X Y Z aa ab ac ad ae af ag ah ai aj ak al am an ao ap aq ar aZ au av aw ax ay az a0 a1 a2 a3 a4 a5 a6 a7 a8 a9 ba bb bc bd be bf bg bh bi bj bk bl bm bn bo bp bq br bs bt bu bv bw bx bz b0 b1 b2 b3 b4 b5 b6 b7 b8 b9 ca cb cc cd ce cf cg ch ci cj ck cl cm cn co cp cq cr cs ct cu cv cw cx cy cz c0 c1 c2 c3 c4 c5).bind fun c8=>
 some (c8)
 else
 some (false)
 else
 some (false)):=by kernel_rfl
theorem Yy (a b c d h i m e f g l:Int) (y:Bool) (Z aa ab ac ad ae af ag ah ai aj ak al am an ao ap aq ar aZ:Int) (au:LL) (av aw ax ay az a0:Int) (a1:Bool) (x k j z:LL) (n o:Int) (p q r s t u v w:LL) (A C:Int) (D E G H J K L M:LL) (O:Bool) (P:Int) (Q R T U V W X Y:LL):g16 a b c d h i m e f g l y Z aa ab ac ad ae af ag ah ai aj ak al am an ao ap aq ar aZ au av aw ax ay az a0 a1 x k j z n o p q r s t u v w A C D E G H J K L M O P Q R T U V W X Y =
 (if (cop .lss a 1) then
 some (false)
 else
 if (cop .gtr a 17) then
 some (false)
 else
 (g50 b).bind fun a4=>
 if (!a4) then
 some (false)
 else
 (g51 c).bind fun a5=>
 if (!a5) then
 some (false)
 else
 (g51 d).bind fun a6=>
 if (!a6) then
 some (false)
 else
 if (cop .eql a 1) then
 (g52 Z aa ab ac ad ae af ag ah ai aj ak al am an ao ap aq ar aZ au av aw ax ay az a0 a1).bind fun a2=>
 YL Zr a b c d h i m e f g l y Z aa ab ac ad ae af ag ah ai aj ak al am an ao ap aq ar aZ au av aw ax ay az a0 a1 x k j z n o p q r s t u v w A C D E G H J K L M O P Q R T U V W X Y a b c d 0 i 0 0 0 0 0 false Z aa ab ac ad ae af ag ah ai aj ak al am an ao ap aq ar aZ au av aw ax ay az a0 a1 E0 E0 E0 E0 0 0 E0 E0 E0 E0 E0 E0 E0 E0 0 0 E0 E0 E0 E0 E0 E0 E0 E0 false 0 E0 E0 E0 E0 E0 E0 E0 E0 a2 0
 else
 if (cop .eql a 2) then
 (g53 e f g).bind fun a2=>
 if a2 then
 (g54 l).bind fun a3=>
 if a3 then
 YL Zr a b c d h i m e f g l y Z aa ab ac ad ae af ag ah ai aj ak al am an ao ap aq ar aZ au av aw ax ay az a0 a1 x k j z n o p q r s t u v w A C D E G H J K L M O P Q R T U V W X Y a b c d 0 i 0 e f g l y 0 0 0 0 0 0 0 0 0 0 0 0 0 0 0 0 0 0 0 0 E0 0 0 0 0 0 0 false E0 k E0 E0 0 0 E0 E0 E0 E0 E0 E0 E0 E0 0 0 E0 E0 E0 E0 E0 E0 E0 E0 false 0 E0 E0 E0 E0 E0 E0 E0 E0 (cop .leq (List.length k:Int) 8) 0
 else
 YL Zr a b c d h i m e f g l y Z aa ab ac ad ae af ag ah ai aj ak al am an ao ap aq ar aZ au av aw ax ay az a0 a1 x k j z n o p q r s t u v w A C D E G H J K L M O P Q R T U V W X Y a b c d 0 i 0 e f g l y 0 0 0 0 0 0 0 0 0 0 0 0 0 0 0 0 0 0 0 0 E0 0 0 0 0 0 0 false E0 k E0 E0 0 0 E0 E0 E0 E0 E0 E0 E0 E0 0 0 E0 E0 E0 E0 E0 E0 E0 E0 false 0 E0 E0 E0 E0 E0 E0 E0 E0 false 0
 else
 YL Zr a b c d h i m e f g l y Z aa ab ac ad ae af ag ah ai aj ak al am an ao ap aq ar aZ au av aw ax ay az a0 a1 x k j z n o p q r s t u v w A C D E G H J K L M O P Q R T U V W X Y a b c d 0 i 0 e f g l y 0 0 0 0 0 0 0 0 0 0 0 0 0 0 0 0 0 0 0 0 E0 0 0 0 0 0 0 false E0 k E0 E0 0 0 E0 E0 E0 E0 E0 E0 E0 E0 0 0 E0 E0 E0 E0 E0 E0 E0 E0 false 0 E0 E0 E0 E0 E0 E0 E0 E0 false 0
 else
 if (cop .eql a 4) then
 (g53 e f g).bind fun a2=>
 if a2 then
 if (cop .geq m 0) then
 if (cop .lss m 64) then
 YL Zr a b c d h i m e f g l y Z aa ab ac ad ae af ag ah ai aj ak al am an ao ap aq ar aZ au av aw ax ay az a0 a1 x k j z n o p q r s t u v w A C D E G H J K L M O P Q R T U V W X Y a b c d 0 i m e f g 0 false 0 0 0 0 0 0 0 0 0 0 0 0 0 0 0 0 0 0 0 0 E0 0 0 0 0 0 0 false E0 k E0 E0 0 0 E0 E0 E0 E0 E0 E0 E0 E0 0 0 E0 E0 E0 E0 E0 E0 E0 E0 false 0 E0 E0 E0 E0 E0 E0 E0 E0 (cop .eql (List.length k:Int) 1) 0
 else
 YL Zr a b c d h i m e f g l y Z aa ab ac ad ae af ag ah ai aj ak al am an ao ap aq ar aZ au av aw ax ay az a0 a1 x k j z n o p q r s t u v w A C D E G H J K L M O P Q R T U V W X Y a b c d 0 i m e f g 0 false 0 0 0 0 0 0 0 0 0 0 0 0 0 0 0 0 0 0 0 0 E0 0 0 0 0 0 0 false E0 k E0 E0 0 0 E0 E0 E0 E0 E0 E0 E0 E0 0 0 E0 E0 E0 E0 E0 E0 E0 E0 false 0 E0 E0 E0 E0 E0 E0 E0 E0 false 0
 else
 YL Zr a b c d h i m e f g l y Z aa ab ac ad ae af ag ah ai aj ak al am an ao ap aq ar aZ au av aw ax ay az a0 a1 x k j z n o p q r s t u v w A C D E G H J K L M O P Q R T U V W X Y a b c d 0 i m e f g 0 false 0 0 0 0 0 0 0 0 0 0 0 0 0 0 0 0 0 0 0 0 E0 0 0 0 0 0 0 false E0 k E0 E0 0 0 E0 E0 E0 E0 E0 E0 E0 E0 0 0 E0 E0 E0 E0 E0 E0 E0 E0 false 0 E0 E0 E0 E0 E0 E0 E0 E0 false 0
 else
 YL Zr a b c d h i m e f g l y Z aa ab ac ad ae af ag ah ai aj ak al am an ao ap aq ar aZ au av aw ax ay az a0 a1 x k j z n o p q r s t u v w A C D E G H J K L M O P Q R T U V W X Y a b c d 0 i m e f g 0 false 0 0 0 0 0 0 0 0 0 0 0 0 0 0 0 0 0 0 0 0 E0 0 0 0 0 0 0 false E0 k E0 E0 0 0 E0 E0 E0 E0 E0 E0 E0 E0 0 0 E0 E0 E0 E0 E0 E0 E0 E0 false 0 E0 E0 E0 E0 E0 E0 E0 E0 false 0
 else
 if (cop .eql a 5) then
 (g53 e f g).bind fun a2=>
 if a2 then
 (g54 l).bind fun a3=>
 YL Zr a b c d h i m e f g l y Z aa ab ac ad ae af ag ah ai aj ak al am an ao ap aq ar aZ au av aw ax ay az a0 a1 x k j z n o p q r s t u v w A C D E G H J K L M O P Q R T U V W X Y a b c d 0 i 0 e f g l false 0 0 0 0 0 0 0 0 0 0 0 0 0 0 0 0 0 0 0 0 E0 0 0 0 0 0 0 false E0 E0 E0 E0 0 0 E0 E0 E0 E0 E0 E0 E0 E0 0 0 E0 E0 E0 E0 E0 E0 E0 E0 false 0 E0 E0 E0 E0 E0 E0 E0 E0 a3 0
 else
 YL Zr a b c d h i m e f g l y Z aa ab ac ad ae af ag ah ai aj ak al am an ao ap aq ar aZ au av aw ax ay az a0 a1 x k j z n o p q r s t u v w A C D E G H J K L M O P Q R T U V W X Y a b c d 0 i 0 e f g l false 0 0 0 0 0 0 0 0 0 0 0 0 0 0 0 0 0 0 0 0 E0 0 0 0 0 0 0 false E0 E0 E0 E0 0 0 E0 E0 E0 E0 E0 E0 E0 E0 0 0 E0 E0 E0 E0 E0 E0 E0 E0 false 0 E0 E0 E0 E0 E0 E0 E0 E0 false 0
 else
 if (cop .eql a 6) then
 (g53 e f g).bind fun a2=>
 if a2 then
 (g55 x false).bind fun a3=>
 if a3 then
 YL Zr a b c d h i m e f g l y Z aa ab ac ad ae af ag ah ai aj ak al am an ao ap aq ar aZ au av aw ax ay az a0 a1 x k j z n o p q r s t u v w A C D E G H J K L M O P Q R T U V W X Y a b c d 0 i 0 e f g 0 false 0 0 0 0 0 0 0 0 0 0 0 0 0 0 0 0 0 0 0 0 E0 0 0 0 0 0 0 false x E0 E0 E0 0 0 E0 E0 E0 E0 E0 E0 E0 E0 0 0 E0 E0 E0 E0 E0 E0 E0 E0 false 0 E0 E0 E0 E0 E0 E0 E0 E0 (cop .leq (List.length x:Int) 64) 0
 else
 YL Zr a b c d h i m e f g l y Z aa ab ac ad ae af ag ah ai aj ak al am an ao ap aq ar aZ au av aw ax ay az a0 a1 x k j z n o p q r s t u v w A C D E G H J K L M O P Q R T U V W X Y a b c d 0 i 0 e f g 0 false 0 0 0 0 0 0 0 0 0 0 0 0 0 0 0 0 0 0 0 0 E0 0 0 0 0 0 0 false x E0 E0 E0 0 0 E0 E0 E0 E0 E0 E0 E0 E0 0 0 E0 E0 E0 E0 E0 E0 E0 E0 false 0 E0 E0 E0 E0 E0 E0 E0 E0 false 0
 else
 YL Zr a b c d h i m e f g l y Z aa ab ac ad ae af ag ah ai aj ak al am an ao ap aq ar aZ au av aw ax ay az a0 a1 x k j z n o p q r s t u v w A C D E G H J K L M O P Q R T U V W X Y a b c d 0 i 0 e f g 0 false 0 0 0 0 0 0 0 0 0 0 0 0 0 0 0 0 0 0 0 0 E0 0 0 0 0 0 0 false x E0 E0 E0 0 0 E0 E0 E0 E0 E0 E0 E0 E0 0 0 E0 E0 E0 E0 E0 E0 E0 E0 false 0 E0 E0 E0 E0 E0 E0 E0 E0 false 0
 else
 if (cop .eql a 12) then
 (g50 h).bind fun a2=>
 if a2 then
 (g56 j).bind fun a3=>
 YL Zr a b c d h i m e f g l y Z aa ab ac ad ae af ag ah ai aj ak al am an ao ap aq ar aZ au av aw ax ay az a0 a1 x k j z n o p q r s t u v w A C D E G H J K L M O P Q R T U V W X Y a b c d h 0 0 0 0 0 0 false 0 0 0 0 0 0 0 0 0 0 0 0 0 0 0 0 0 0 0 0 E0 0 0 0 0 0 0 false E0 E0 j E0 0 0 E0 E0 E0 E0 E0 E0 E0 E0 0 0 E0 E0 E0 E0 E0 E0 E0 E0 false 0 E0 E0 E0 E0 E0 E0 E0 E0 a3 0
 else
 YL Zr a b c d h i m e f g l y Z aa ab ac ad ae af ag ah ai aj ak al am an ao ap aq ar aZ au av aw ax ay az a0 a1 x k j z n o p q r s t u v w A C D E G H J K L M O P Q R T U V W X Y a b c d h 0 0 0 0 0 0 false 0 0 0 0 0 0 0 0 0 0 0 0 0 0 0 0 0 0 0 0 E0 0 0 0 0 0 0 false E0 E0 j E0 0 0 E0 E0 E0 E0 E0 E0 E0 E0 0 0 E0 E0 E0 E0 E0 E0 E0 E0 false 0 E0 E0 E0 E0 E0 E0 E0 E0 false 0
 else
 if (cop .eql a 13) then
 (g50 h).bind fun a2=>
 if a2 then
 (g57 A C D E G H J K L M O P Q R T U V W X Y).bind fun a3=>
 YL Zr a b c d h i m e f g l y Z aa ab ac ad ae af ag ah ai aj ak al am an ao ap aq ar aZ au av aw ax ay az a0 a1 x k j z n o p q r s t u v w A C D E G H J K L M O P Q R T U V W X Y a b c d h 0 0 0 0 0 0 false 0 0 0 0 0 0 0 0 0 0 0 0 0 0 0 0 0 0 0 0 E0 0 0 0 0 0 0 false E0 E0 E0 E0 0 0 E0 E0 E0 E0 E0 E0 E0 E0 A C D E G H J K L M O P Q R T U V W X Y a3 0
 else
 YL Zr a b c d h i m e f g l y Z aa ab ac ad ae af ag ah ai aj ak al am an ao ap aq ar aZ au av aw ax ay az a0 a1 x k j z n o p q r s t u v w A C D E G H J K L M O P Q R T U V W X Y a b c d h 0 0 0 0 0 0 false 0 0 0 0 0 0 0 0 0 0 0 0 0 0 0 0 0 0 0 0 E0 0 0 0 0 0 0 false E0 E0 E0 E0 0 0 E0 E0 E0 E0 E0 E0 E0 E0 A C D E G H J K L M O P Q R T U V W X Y false 0
 else
 if (cop .eql a 14) then
 (g50 h).bind fun a2=>
 if a2 then
 (g50 n).bind fun a3=>
 if a3 then
 (g56 j).bind fun a7=>
 if a7 then
 (g58 o p q).bind fun a8=>
 if a8 then
 (g59 r s t u v w).bind fun a9=>
 YL Zr a b c d h i m e f g l y Z aa ab ac ad ae af ag ah ai aj ak al am an ao ap aq ar aZ au av aw ax ay az a0 a1 x k j z n o p q r s t u v w A C D E G H J K L M O P Q R T U V W X Y a b c d h 0 0 0 0 0 0 false 0 0 0 0 0 0 0 0 0 0 0 0 0 0 0 0 0 0 0 0 E0 0 0 0 0 0 0 false E0 E0 j E0 n o p q r s t u v w 0 0 E0 E0 E0 E0 E0 E0 E0 E0 false 0 E0 E0 E0 E0 E0 E0 E0 E0 a9 0
 else
 YL Zr a b c d h i m e f g l y Z aa ab ac ad ae af ag ah ai aj ak al am an ao ap aq ar aZ au av aw ax ay az a0 a1 x k j z n o p q r s t u v w A C D E G H J K L M O P Q R T U V W X Y a b c d h 0 0 0 0 0 0 false 0 0 0 0 0 0 0 0 0 0 0 0 0 0 0 0 0 0 0 0 E0 0 0 0 0 0 0 false E0 E0 j E0 n o p q r s t u v w 0 0 E0 E0 E0 E0 E0 E0 E0 E0 false 0 E0 E0 E0 E0 E0 E0 E0 E0 false 0
 else
 YL Zr a b c d h i m e f g l y Z aa ab ac ad ae af ag ah ai aj ak al am an ao ap aq ar aZ au av aw ax ay az a0 a1 x k j z n o p q r s t u v w A C D E G H J K L M O P Q R T U V W X Y a b c d h 0 0 0 0 0 0 false 0 0 0 0 0 0 0 0 0 0 0 0 0 0 0 0 0 0 0 0 E0 0 0 0 0 0 0 false E0 E0 j E0 n o p q r s t u v w 0 0 E0 E0 E0 E0 E0 E0 E0 E0 false 0 E0 E0 E0 E0 E0 E0 E0 E0 false 0
 else
 YL Zr a b c d h i m e f g l y Z aa ab ac ad ae af ag ah ai aj ak al am an ao ap aq ar aZ au av aw ax ay az a0 a1 x k j z n o p q r s t u v w A C D E G H J K L M O P Q R T U V W X Y a b c d h 0 0 0 0 0 0 false 0 0 0 0 0 0 0 0 0 0 0 0 0 0 0 0 0 0 0 0 E0 0 0 0 0 0 0 false E0 E0 j E0 n o p q r s t u v w 0 0 E0 E0 E0 E0 E0 E0 E0 E0 false 0 E0 E0 E0 E0 E0 E0 E0 E0 false 0
 else
 YL Zr a b c d h i m e f g l y Z aa ab ac ad ae af ag ah ai aj ak al am an ao ap aq ar aZ au av aw ax ay az a0 a1 x k j z n o p q r s t u v w A C D E G H J K L M O P Q R T U V W X Y a b c d h 0 0 0 0 0 0 false 0 0 0 0 0 0 0 0 0 0 0 0 0 0 0 0 0 0 0 0 E0 0 0 0 0 0 0 false E0 E0 j E0 n o p q r s t u v w 0 0 E0 E0 E0 E0 E0 E0 E0 E0 false 0 E0 E0 E0 E0 E0 E0 E0 E0 false 0
 else
 if (cop .eql a 15) then
 (g50 h).bind fun a2=>
 YL Zr a b c d h i m e f g l y Z aa ab ac ad ae af ag ah ai aj ak al am an ao ap aq ar aZ au av aw ax ay az a0 a1 x k j z n o p q r s t u v w A C D E G H J K L M O P Q R T U V W X Y a b c d h 0 0 0 0 0 0 false 0 0 0 0 0 0 0 0 0 0 0 0 0 0 0 0 0 0 0 0 E0 0 0 0 0 0 0 false E0 E0 E0 E0 0 0 E0 E0 E0 E0 E0 E0 E0 E0 0 0 E0 E0 E0 E0 E0 E0 E0 E0 false 0 E0 E0 E0 E0 E0 E0 E0 E0 a2 0
 else
 if (cop .eql a 16) then
 (g50 h).bind fun a2=>
 YL Zr a b c d h i m e f g l y Z aa ab ac ad ae af ag ah ai aj ak al am an ao ap aq ar aZ au av aw ax ay az a0 a1 x k j z n o p q r s t u v w A C D E G H J K L M O P Q R T U V W X Y a b c d h 0 0 0 0 0 0 false 0 0 0 0 0 0 0 0 0 0 0 0 0 0 0 0 0 0 0 0 E0 0 0 0 0 0 0 false E0 E0 E0 E0 0 0 E0 E0 E0 E0 E0 E0 E0 E0 0 0 E0 E0 E0 E0 E0 E0 E0 E0 false 0 E0 E0 E0 E0 E0 E0 E0 E0 a2 0
 else
 if (cop .eql a 17) then
 (g56 j).bind fun a2=>
 if a2 then
 (g60 z).bind fun a3=>
 YL Zr a b c d h i m e f g l y Z aa ab ac ad ae af ag ah ai aj ak al am an ao ap aq ar aZ au av aw ax ay az a0 a1 x k j z n o p q r s t u v w A C D E G H J K L M O P Q R T U V W X Y a b c d 0 0 0 0 0 0 0 false 0 0 0 0 0 0 0 0 0 0 0 0 0 0 0 0 0 0 0 0 E0 0 0 0 0 0 0 false E0 E0 j z 0 0 E0 E0 E0 E0 E0 E0 E0 E0 0 0 E0 E0 E0 E0 E0 E0 E0 E0 false 0 E0 E0 E0 E0 E0 E0 E0 E0 a3 0
 else
 YL Zr a b c d h i m e f g l y Z aa ab ac ad ae af ag ah ai aj ak al am an ao ap aq ar aZ au av aw ax ay az a0 a1 x k j z n o p q r s t u v w A C D E G H J K L M O P Q R T U V W X Y a b c d 0 0 0 0 0 0 0 false 0 0 0 0 0 0 0 0 0 0 0 0 0 0 0 0 0 0 0 0 E0 0 0 0 0 0 0 false E0 E0 j z 0 0 E0 E0 E0 E0 E0 E0 E0 E0 0 0 E0 E0 E0 E0 E0 E0 E0 E0 false 0 E0 E0 E0 E0 E0 E0 E0 E0 false 0
 else
 (g53 e f g).bind fun a2=>
 YL Zr a b c d h i m e f g l y Z aa ab ac ad ae af ag ah ai aj ak al am an ao ap aq ar aZ au av aw ax ay az a0 a1 x k j z n o p q r s t u v w A C D E G H J K L M O P Q R T U V W X Y a b c d 0 i 0 e f g 0 false 0 0 0 0 0 0 0 0 0 0 0 0 0 0 0 0 0 0 0 0 E0 0 0 0 0 0 0 false E0 E0 E0 E0 0 0 E0 E0 E0 E0 E0 E0 E0 E0 0 0 E0 E0 E0 E0 E0 E0 E0 E0 false 0 E0 E0 E0 E0 E0 E0 E0 E0 a2 0):=by kernel_rfl
end Go.Proofs.YtjldbnbdcmfbmaaGreat
