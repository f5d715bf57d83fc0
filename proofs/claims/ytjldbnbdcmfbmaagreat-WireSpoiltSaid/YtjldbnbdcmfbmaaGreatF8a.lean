/- Functions of the program, as what they compute. -/
import Derived.Test.YtjldbnbdcmfbmaaGreatGW8
namespace Go.Proofs.YtjldbnbdcmfbmaaGreat
open Go Go.AM
set_option linter.unusedVariables false
set_option maxRecDepth 100000
noncomputable def F32:Fn:=⟨44,[2,3],[],[],0,[],[],Tryz.f32,[.c (.int .i64)],[.c (.own false 89),.c (.bool)],[]⟩
theorem ZCj:F32.S.Ok Tryz.prog 32:=F32.ok Tryz.func32 (by kernel_rfl) trivial
noncomputable def g32 (a:Int):Option (LL×Bool):=F32.S.g [.i a]
theorem Y0 (a:Int):g32 a =
 (if (cop .eql a 1) then
 some (((E0++[[AV.val (.int .i64 0)]])++[[AV.val (.int .i64 1)]]),true)
 else
 if (cop .eql a 2) then
 some ((((((E0++[[AV.val (.int .i64 0)]])++[[AV.val (.int .i64 2)]])++[[AV.val (.int .i64 3)]])++[[AV.val (.int .i64 4)]])++[[AV.val (.int .i64 5)]]),true)
 else
 if (cop .eql a 3) then
 some (((E0++[[AV.val (.int .i64 0)]])++[[AV.val (.int .i64 2)]]),true)
 else
 if (cop .eql a 7) then
 some (((E0++[[AV.val (.int .i64 0)]])++[[AV.val (.int .i64 2)]]),true)
 else
 if (cop .eql a 8) then
 some (((E0++[[AV.val (.int .i64 0)]])++[[AV.val (.int .i64 2)]]),true)
 else
 if (cop .eql a 9) then
 some (((E0++[[AV.val (.int .i64 0)]])++[[AV.val (.int .i64 2)]]),true)
 else
 if (cop .eql a 10) then
 some (((E0++[[AV.val (.int .i64 0)]])++[[AV.val (.int .i64 2)]]),true)
 else
 if (cop .eql a 11) then
 some (((E0++[[AV.val (.int .i64 0)]])++[[AV.val (.int .i64 2)]]),true)
 else
 if (cop .eql a 4) then
 some (((((E0++[[AV.val (.int .i64 0)]])++[[AV.val (.int .i64 2)]])++[[AV.val (.int .i64 6)]])++[[AV.val (.int .i64 5)]]),true)
 else
 if (cop .eql a 5) then
 some ((((E0++[[AV.val (.int .i64 0)]])++[[AV.val (.int .i64 2)]])++[[AV.val (.int .i64 3)]]),true)
 else
 if (cop .eql a 6) then
 some ((((E0++[[AV.val (.int .i64 0)]])++[[AV.val (.int .i64 2)]])++[[AV.val (.int .i64 7)]]),true)
 else
 if (cop .eql a 12) then
 some (((E0++[[AV.val (.int .i64 8)]])++[[AV.val (.int .i64 9)]]),true)
 else
 if (cop .eql a 13) then
 some (((E0++[[AV.val (.int .i64 8)]])++[[AV.val (.int .i64 10)]]),true)
 else
 if (cop .eql a 14) then
 some ((((((E0++[[AV.val (.int .i64 8)]])++[[AV.val (.int .i64 11)]])++[[AV.val (.int .i64 9)]])++[[AV.val (.int .i64 12)]])++[[AV.val (.int .i64 13)]]),true)
 else
 if (cop .eql a 15) then
 some ((E0++[[AV.val (.int .i64 8)]]),true)
 else
 if (cop .eql a 16) then
 some ((E0++[[AV.val (.int .i64 8)]]),true)
 else
 if (cop .eql a 17) then
 some (((E0++[[AV.val (.int .i64 9)]])++[[AV.val (.int .i64 14)]]),true)
 else
 some (E0,false)):=by kernel_rfl
noncomputable def F33:Fn:=⟨9,[2],[],[],0,[],[],Tryz.f33,[.c (.int .i64)],[.c (.bool)],[]⟩
theorem Zzv:F33.S.Ok Tryz.prog 33:=F33.ok Tryz.func33 (by kernel_rfl) trivial
noncomputable def g33 (a:Int):Option (Bool):=F33.S.g [.i a]
theorem ZwH (a:Int):g33 a =
 (if (cop .geq a 0) then
 some ((cop .leq a 1073741824))
 else
 some (false)):=by kernel_rfl
noncomputable def F34:Fn:=⟨9,[2],[],[],0,[],[],Tryz.f34,[.c (.int .i64)],[.c (.bool)],[]⟩
theorem ZtA:F34.S.Ok Tryz.prog 34:=F34.ok Tryz.func34 (by kernel_rfl) trivial
noncomputable def g34 (a:Int):Option (Bool):=F34.S.g [.i a]
theorem Zvt (a:Int):g34 a =
 (if (cop .geq a 0) then
 some ((cop .lss a 32))
 else
 some (false)):=by kernel_rfl
noncomputable def F89:Fn:=⟨9,[2],[],[],0,[],[],Tryz.f89,[.c (.int .i64)],[.c (.bool)],[]⟩
theorem Zyf:F89.S.Ok Tryz.prog 89:=F89.ok Tryz.func89 (by kernel_rfl) trivial
noncomputable def g89 (a:Int):Option (Bool):=F89.S.g [.i a]
theorem Zxj (a:Int):g89 a =
 (if (cop .geq a 0) then
 some ((cop .lss a 16))
 else
 some (false)):=by kernel_rfl
noncomputable def F99:Fn:=⟨31,[2],[],[],0,[],[],Tryz.f99,[.agg [.int .i64,.int .i64,.int .i64]],[.c (.bool)],[]⟩
theorem ZyC:F99.S.Ok Tryz.prog 99:=F99.ok Tryz.func99 (by kernel_rfl) trivial
noncomputable def g99 (a b c:Int):Option (Bool):=F99.S.g [.i a,.i b,.i c]
theorem ZxZ (a b c:Int):g99 a b c =
 (if (cop .geq a 0) then
 if (cop .lss a 32) then
 if (cop .geq b 1) then
 if (cop .leq b 1073741824) then
 if (cop .geq c 0) then
 some ((cop .lss c 8))
 else
 some (false)
 else
 some (false)
 else
 some (false)
 else
 some (false)
 else
 some (false)):=by kernel_rfl
noncomputable def F91:Fn:=⟨10,[2],[],[],0,[],[],Tryz.f91,[.agg [.int .i64,.int .i64,.int .i64]],[.c (.bool)],[(99,F99.S)]⟩
theorem Zys:F91.S.Ok Tryz.prog 91:=F91.ok Tryz.func91 (by kernel_rfl) ⟨ZyC,trivial⟩
noncomputable def g91 (a b c:Int):Option (Bool):=F91.S.g [.i a,.i b,.i c]
theorem Zv4 (b c a:Int):g91 b c a =
 ((g99 b c a).bind fun d=>
 if d then
 some ((cop .eql a 0))
 else
 some (false)):=by kernel_rfl
noncomputable def ZuS:Fn:=⟨26,[4],[(4,[(0,.c (.slice 3)),(1,.c (.slice 3)),(12,.c (.int .i64)),(13,.c (.int .i64))])],[],0,[],[],Tryz.f196,[.c (.slice 3),.c (.slice 3)],[.c (.bool)],[]⟩
theorem ZBJ:ZuS.S.Ok Tryz.prog 196:=ZuS.ok Tryz.func196 (by kernel_rfl) trivial
noncomputable def ZCh (a b:LL):Option (Bool):=ZuS.S.g [.l a,.l b]
noncomputable def Zcw (k:Nat) (a b:LL) (c d:Int):Option (Bool):=ZuS.lp [1,0] 0 r0 k [.l a,.l b,.i c,.i d]
theorem ZhN (k:Nat) (b c:LL) (d a:Int):Zcw (k+1) b c d a =
 (if (cop .lss a d) then
 Zm b a [.int .i64,.int .i64,.int .i64] fun (e:Int×Int×Int)=>
 Zm c a [.int .i64,.int .i64,.int .i64] fun (f:Int×Int×Int)=>
 if (!((cop .eql e.1 f.1)&&((cop .eql e.2.1 f.2.1)&&((cop .eql e.2.2 f.2.2)&&true)))) then
 some (false)
 else
 Zcw k b c d (iop .add .i64 a 1)
 else
 some (true)):=by kernel_rfl
theorem Ztb (a b:LL):ZCh a b =
 (if (cop .neq (List.length a:Int) (List.length b:Int)) then
 some (false)
 else
 Zcw Zr a b (List.length a:Int) 0):=by kernel_rfl
noncomputable def ZuK:Fn:=⟨24,[4],[],[],0,[],[],Tryz.f164,[.agg hs16,.agg hs16],[.c (.bool)],[(196,ZuS.S)]⟩
theorem Zso:ZuK.S.Ok Tryz.prog 164:=ZuK.ok Tryz.func164 (by kernel_rfl) ⟨ZBJ,trivial⟩
noncomputable def Zte (a c d:Int) (e:LL) (f h j k m n:Int) (o:Bool) (p q r:Int) (s:LL) (t u v w x y:Int) (z:Bool):Option (Bool):=ZuK.S.g [.i a,.i c,.i d,.l e,.i f,.i h,.i j,.i k,.i m,.i n,.b o,.i p,.i q,.i r,.l s,.i t,.i u,.i v,.i w,.i x,.i y,.b z]
theorem Zsm (a b c:Int) (d:LL) (e f g h i j:Int) (k:Bool) (l m n:Int) (o:LL) (p q r s t u:Int) (v:Bool):Zte a b c d e f g h i j k l m n o p q r s t u v =
 (if ((cop .eql a l)&&((cop .eql b m)&&((cop .eql c n)&&true))) then
 if ((cop .eql e p)&&((cop .eql f q)&&((cop .eql g r)&&((cop .eql h s)&&((cop .eql i t)&&((cop .eql j u)&&((k == v)&&true))))))) then
 (ZCh d o).bind fun w=>
 some (w)
 else
 some (false)
 else
 some (false)):=by kernel_rfl
noncomputable def Zyy:Fn:=⟨38,[4],[],[],0,[],[],Tryz.f197,[.c (.int .i64),.c (.int .i64)],[.c (.bool)],[]⟩
theorem Zzx:Zyy.S.Ok Tryz.prog 197:=Zyy.ok Tryz.func197 (by kernel_rfl) trivial
noncomputable def ZCg (a b:Int):Option (Bool):=Zyy.S.g [.i a,.i b]
theorem ZrJ (b a:Int):ZCg b a =
 (if (cop .eql b 1) then
 if (cop .geq a 6) then
 some ((cop .leq a 40))
 else
 some (false)
 else
 if (cop .eql b 2) then
 if (cop .geq a 12) then
 some ((cop .leq a 40))
 else
 some (false)
 else
 if (cop .eql b 3) then
 some ((cop .eql a 12))
 else
 if (cop .eql b 4) then
 some ((cop .eql a 6))
 else
 if (cop .eql b 5) then
 some ((cop .eql a 10))
 else
 if (cop .eql b 6) then
 some ((cop .eql a 16))
 else
 some (false)):=by kernel_rfl
noncomputable def ZyS:Fn:=⟨8,[2],[],[],0,[],[],Tryz.f199,[.agg hs27],[.agg [.int .i64,.int .i64]],[]⟩
theorem ZBi:ZyS.S.Ok Tryz.prog 199:=ZyS.ok Tryz.func199 (by kernel_rfl) trivial
noncomputable def ZAp (a c d e f h:Int) (j:Bool):Option (Int×Int):=ZyS.S.g [.i a,.i c,.i d,.i e,.i f,.i h,.b j]
theorem Zsj (c a b d e f:Int) (g:Bool):ZAp c a b d e f g =
 (some (a,b)):=by kernel_rfl
noncomputable def ZyK:Fn:=⟨32,[2],[],[],0,[],[],Tryz.f198,[.agg [.int .i64,.int .i64]],[.c (.bool)],[]⟩
theorem ZzE:ZyK.S.Ok Tryz.prog 198:=ZyK.ok Tryz.func198 (by kernel_rfl) trivial
noncomputable def ZBY (a b:Int):Option (Bool):=ZyK.S.g [.i a,.i b]
theorem ZtM (b a:Int):ZBY b a =
 (if (cop .lss a 6) then
 some (false)
 else
 if (cop .gtr a 40) then
 some (false)
 else
 if (cop .lss b 0) then
 some (false)
 else
 ZE ((0:Int)≤a)<|
 ZE (((iop .shl .i64 1 a):Int)≠0)<|
 if (cop .eql (iop .rem .i64 b (iop .shl .i64 1 a)) 0) then
 some ((cop .leq b (iop .sub .i64 1099511627776 (iop .shl .i64 1 a))))
 else
 some (false)):=by kernel_rfl
noncomputable def ZyQ:Fn:=⟨22,[4],[],[],0,[],[],Tryz.f200,[.c (.int .i64),.c (.int .i64)],[.c (.bool)],[]⟩
theorem ZAh:ZyQ.S.Ok Tryz.prog 200:=ZyQ.ok Tryz.func200 (by kernel_rfl) trivial
noncomputable def Zzr (a b:Int):Option (Bool):=ZyQ.S.g [.i a,.i b]
theorem ZsY (b a:Int):Zzr b a =
 (if (cop .eql b 32) then
 if (cop .geq a 0) then
 some ((cop .leq a 1))
 else
 some (false)
 else
 if (cop .eql b 39) then
 if (cop .geq a 0) then
 some ((cop .leq a 2))
 else
 some (false)
 else
 some (false)):=by kernel_rfl
noncomputable def ZuI:Fn:=⟨55,[2],[],[],0,[],[],Tryz.f166,[.agg hs27],[.c (.bool)],[(197,Zyy.S),(199,ZyS.S),(198,ZyK.S),(200,ZyQ.S)]⟩
theorem Zsc:ZuI.S.Ok Tryz.prog 166:=ZuI.ok Tryz.func166 (by kernel_rfl) ⟨Zzx,⟨ZBi,⟨ZzE,⟨ZAh,trivial⟩⟩⟩⟩
noncomputable def Zy7 (a c d e f h:Int) (j:Bool):Option (Bool):=ZuI.S.g [.i a,.i c,.i d,.i e,.i f,.i h,.b j]
theorem Zs2 (a g f b c d:Int) (e:Bool):Zy7 a g f b c d e =
 ((ZCg a f).bind fun i=>
 if (!i) then
 some (false)
 else
 (ZAp a g f b c d e).bind fun h=>
 (ZBY h.1 h.2).bind fun j=>
 if (!j) then
 some (false)
 else
 if (cop .lss b 0) then
 some (false)
 else
 if (cop .gtr b 7) then
 some (false)
 else
 if (cop .eql a 3) then
 (Zzr c d).bind fun k=>
 if (!k) then
 some (false)
 else
 if (!e) then
 some (true)
 else
 if (cop .eql a 1) then
 some (true)
 else
 some ((cop .eql a 2))
 else
 if (cop .neq c 0) then
 some (false)
 else
 if (cop .neq d 0) then
 some (false)
 else
 if (!e) then
 some (true)
 else
 if (cop .eql a 1) then
 some (true)
 else
 some ((cop .eql a 2))):=by kernel_rfl
noncomputable def Zu3:Fn:=⟨19,[4],[(2,[(0,.c (.slice 3)),(3,.box [.int .i64,.int .i64,.int .i64]),(7,.c (.int .i64)),(8,.c (.int .i64))])],[],0,[],[],Tryz.f201,[.c (.slice 3),.agg [.int .i64,.int .i64,.int .i64]],[.c (.int .i64)],[]⟩
theorem ZBE:Zu3.S.Ok Tryz.prog 201:=Zu3.ok Tryz.func201 (by kernel_rfl) trivial
noncomputable def ZDw (a:LL) (b c d:Int):Option (Int):=Zu3.S.g [.l a,.i b,.i c,.i d]
noncomputable def Zgt (k:Nat) (a:LL) (b c d e f:Int):Option (Int):=Zu3.lp [0] 0 r0 k [.l a,.i b,.i c,.i d,.i e,.i f]
theorem Zha (k:Nat) (b:LL) (c d e f a:Int):Zgt (k+1) b c d e f a =
 (if (cop .lss a f) then
 Zm b a [.int .i64,.int .i64,.int .i64] fun (g:Int×Int×Int)=>
 if ((cop .eql c g.1)&&((cop .eql d g.2.1)&&((cop .eql e g.2.2)&&true))) then
 some (a)
 else
 Zgt k b c d e f (iop .add .i64 a 1)
 else
 some ((-1))):=by kernel_rfl
theorem Zua (a:LL) (b c d:Int):ZDw a b c d =
 (Zgt Zr a b c d (List.length a:Int) 0):=by kernel_rfl
noncomputable def Zyw:Fn:=⟨9,[4],[],[],0,[],[],Tryz.f167,[.c (.slice 3),.agg [.int .i64,.int .i64,.int .i64]],[.c (.bool)],[(201,Zu3.S)]⟩
theorem ZBU:Zyw.S.Ok Tryz.prog 167:=Zyw.ok Tryz.func167 (by kernel_rfl) ⟨ZBE,trivial⟩
noncomputable def ZCF (a:LL) (b c d:Int):Option (Bool):=Zyw.S.g [.l a,.i b,.i c,.i d]
theorem ZsW (a:LL) (b c d:Int):ZCF a b c d =
 ((ZDw a b c d).bind fun e=>
 some ((cop .geq e 0))):=by kernel_rfl
noncomputable def F95:Fn:=⟨47,[2],[(4,[(1,.box hs16),(22,.c (.slice 3)),(23,.c (.int .i64)),(24,.c (.int .i64))])],[],0,[],[],Tryz.f95,[.agg hs16],[.c (.bool)],[(99,F99.S),(166,ZuI.S),(167,Zyw.S)]⟩
theorem Zuq:F95.S.Ok Tryz.prog 95:=F95.ok Tryz.func95 (by kernel_rfl) ⟨ZyC,⟨Zsc,⟨ZBU,trivial⟩⟩⟩
noncomputable def g95 (a c d:Int) (e:LL) (f h j k m n:Int) (o:Bool):Option (Bool):=F95.S.g [.i a,.i c,.i d,.l e,.i f,.i h,.i j,.i k,.i m,.i n,.b o]
noncomputable def Zp0 (k:Nat) (a c d:Int) (e:LL) (f g h j m n:Int) (o:Bool) (p:LL) (q r:Int):Option (Bool):=F95.lp [0,1,0,1,1,0] 0 r0 k [.i a,.i c,.i d,.l e,.i f,.i g,.i h,.i j,.i m,.i n,.b o,.l p,.i q,.i r]
theorem ZkZ (k:Nat) (d e f:Int) (c:LL) (i j l m n o:Int) (p:Bool) (g:LL) (h b:Int):Zp0 (k+1) d e f c i j l m n o p g h b =
 (if (cop .lss b h) then
 Zm g b [.int .i64,.int .i64,.int .i64] fun (a:Int×Int×Int)=>
 (g99 a.1 a.2.1 a.2.2).bind fun q=>
 if (!q) then
 some (false)
 else
 if ((cop .eql a.1 d)&&((cop .eql a.2.1 e)&&((cop .eql a.2.2 f)&&true))) then
 some (false)
 else
 ZE ((0:Int)≤b)<|
 ZE ((b:Int)≤(List.length c:Int))<|
 (ZCF (List.take (Int.toNat b) c) a.1 a.2.1 a.2.2).bind fun r=>
 if r then
 some (false)
 else
 Zp0 k d e f c i j l m n o p g h (iop .add .i64 b 1)
 else
 some (true)):=by kernel_rfl
theorem Zv9 (b c d:Int) (a:LL) (e f g h i j:Int) (k:Bool):g95 b c d a e f g h i j k =
 ((g99 b c d).bind fun l=>
 if (!l) then
 some (false)
 else
 (Zy7 e f g h i j k).bind fun m=>
 if (!m) then
 some (false)
 else
 if (cop .gtr (List.length a:Int) 8) then
 some (false)
 else
 Zp0 Zr b c d a e f g h i j k a (List.length a:Int) 0):=by kernel_rfl
noncomputable def F90:Fn:=⟨46,[2],[],[],0,[],[],Tryz.f90,[.agg hs6],[.c (.bool)],[(91,F91.S),(89,F89.S),(164,ZuK.S),(95,F95.S)]⟩
theorem ZC9:F90.S.Ok Tryz.prog 90:=F90.ok Tryz.func90 (by kernel_rfl) ⟨Zys,⟨Zyf,⟨Zso,⟨Zuq,trivial⟩⟩⟩⟩
noncomputable def g90 (a c d e f h j k m n o p q r s t u v w x:Int) (y:LL) (z A C D E G:Int) (H:Bool):Option (Bool):=F90.S.g [.i a,.i c,.i d,.i e,.i f,.i h,.i j,.i k,.i m,.i n,.i o,.i p,.i q,.i r,.i s,.i t,.i u,.i v,.i w,.i x,.l y,.i z,.i A,.i C,.i D,.i E,.i G,.b H]
theorem ZvL (o p q b s t u v w x y z A C D r n c d e:Int) (f:LL) (g h i j k l:Int) (m:Bool):g90 o p q b s t u v w x y z A C D r n c d e f g h i j k l m =
 ((g91 o p q).bind fun E=>
 if (!E) then
 some (false)
 else
 if (cop .lss b 1) then
 some (false)
 else
 if (cop .gtr b 6) then
 some (false)
 else
 (g89 r).bind fun G=>
 if (!G) then
 some (false)
 else
 if (cop .neq n 32) then
 if (cop .neq n 39) then
 some (false)
 else
 if (cop .eql b 1) then
 (Zte c d e f g h i j k l m 0 0 0 E0 0 0 0 0 0 0 false).bind fun a=>
 some (a)
 else
 (g95 c d e f g h i j k l m).bind fun a=>
 some (a)
 else
 if (cop .eql b 1) then
 (Zte c d e f g h i j k l m 0 0 0 E0 0 0 0 0 0 0 false).bind fun a=>
 some (a)
 else
 (g95 c d e f g h i j k l m).bind fun a=>
 some (a)):=by kernel_rfl
noncomputable def F92:Fn:=⟨9,[2],[],[],0,[],[],Tryz.f92,[.c (.int .i64)],[.c (.bool)],[]⟩
theorem ZDz:F92.S.Ok Tryz.prog 92:=F92.ok Tryz.func92 (by kernel_rfl) trivial
noncomputable def g92 (a:Int):Option (Bool):=F92.S.g [.i a]
theorem Zw3 (a:Int):g92 a =
 (if (cop .geq a 0) then
 some ((cop .leq a 99))
 else
 some (false)):=by kernel_rfl
noncomputable def F96:Fn:=⟨9,[2],[],[],0,[],[],Tryz.f96,[.c (.int .i64)],[.c (.bool)],[]⟩
theorem ZDi:F96.S.Ok Tryz.prog 96:=F96.ok Tryz.func96 (by kernel_rfl) trivial
noncomputable def g96 (a:Int):Option (Bool):=F96.S.g [.i a]
theorem Zxa (a:Int):g96 a =
 (if (cop .geq a 0) then
 some ((cop .lss a 64))
 else
 some (false)):=by kernel_rfl
noncomputable def ZwN:Fn:=⟨19,[4],[(2,[(0,.c (.slice 1)),(1,.c (.int .i64)),(7,.c (.int .i64)),(8,.c (.int .i64))])],[],0,[],[],Tryz.f202,[.c (.slice 1),.c (.int .i64)],[.c (.int .i64)],[]⟩
theorem ZAj:ZwN.S.Ok Tryz.prog 202:=ZwN.ok Tryz.func202 (by kernel_rfl) trivial
noncomputable def ZAm (a:LL) (b:Int):Option (Int):=ZwN.S.g [.l a,.i b]
noncomputable def ZeI (k:Nat) (a:LL) (b c d:Int):Option (Int):=ZwN.lp [0] 0 r0 k [.l a,.i b,.i c,.i d]
theorem Zht (k:Nat) (b:LL) (c d a:Int):ZeI (k+1) b c d a =
 (if (cop .lss a d) then
 Zm b a [.int .i64] fun (e:Int)=>
 if (cop .eql c e) then
 some (a)
 else
 ZeI k b c d (iop .add .i64 a 1)
 else
 some ((-1))):=by kernel_rfl
theorem ZrB (a:LL) (b:Int):ZAm a b =
 (ZeI Zr a b (List.length a:Int) 0):=by kernel_rfl
noncomputable def Zzd:Fn:=⟨9,[4],[],[],0,[],[],Tryz.f170,[.c (.slice 1),.c (.int .i64)],[.c (.bool)],[(202,ZwN.S)]⟩
theorem ZAR:Zzd.S.Ok Tryz.prog 170:=Zzd.ok Tryz.func170 (by kernel_rfl) ⟨ZAj,trivial⟩
noncomputable def ZBe (a:LL) (b:Int):Option (Bool):=Zzd.S.g [.l a,.i b]
theorem ZrZ (a:LL) (b:Int):ZBe a b =
 ((ZAm a b).bind fun c=>
 some ((cop .geq c 0))):=by kernel_rfl
noncomputable def Zze:Fn:=⟨6,[2],[],[],0,[],[],Tryz.f171,[.c (.int .i64)],[.c (.bool)],[(34,F34.S)]⟩
theorem ZAw:Zze.S.Ok Tryz.prog 171:=Zze.ok Tryz.func171 (by kernel_rfl) ⟨ZtA,trivial⟩
noncomputable def ZCv (a:Int):Option (Bool):=Zze.S.g [.i a]
theorem Ztd (a:Int):ZCv a =
 ((g34 a).bind fun b=>
 some ((!b))):=by kernel_rfl
noncomputable def Za4:Fn:=⟨19,[4],[(2,[(0,.c (.slice 1)),(1,.clo 171 []),(7,.c (.int .i64)),(8,.c (.int .i64))])],[],0,[],[],Tryz.f169,[.c (.slice 1),.clo 171 []],[.c (.int .i64)],[(171,Zze.S)]⟩
theorem ZnD:Za4.S.Ok Tryz.prog 169:=Za4.ok Tryz.func169 (by kernel_rfl) ⟨ZAw,trivial⟩
noncomputable def Ze6 (a:LL):Option (Int):=Za4.S.g [.l a]
noncomputable def KT (k:Nat) (a:LL) (b c:Int):Option (Int):=Za4.lp [0] 0 r0 k [.l a,.i b,.i c]
theorem Za6 (k:Nat) (b:LL) (c a:Int):KT (k+1) b c a =
 (if (cop .lss a c) then
 Zm b a [.int .i64] fun (d:Int)=>
 (ZCv d).bind fun e=>
 if e then
 some (a)
 else
 KT k b c (iop .add .i64 a 1)
 else
 some ((-1))):=by kernel_rfl
theorem Zi4 (a:LL):Ze6 a =
 (KT Zr a (List.length a:Int) 0):=by kernel_rfl
noncomputable def Zcm:Fn:=⟨9,[4],[],[],0,[],[],Tryz.f100,[.c (.slice 1),.clo 171 []],[.c (.bool)],[(169,Za4.S)]⟩
theorem ZnB:Zcm.S.Ok Tryz.prog 100:=Zcm.ok Tryz.func100 (by kernel_rfl) ⟨ZnD,trivial⟩
noncomputable def Zfo (a:LL):Option (Bool):=Zcm.S.g [.l a]
theorem Zii (a:LL):Zfo a =
 ((Ze6 a).bind fun b=>
 some ((cop .geq b 0))):=by kernel_rfl
noncomputable def ZuB:Fn:=⟨45,[2],[(4,[(1,.box [.int .i64,.slice 1,.slice 1]),(22,.c (.slice 1)),(23,.c (.int .i64)),(24,.c (.int .i64))])],[],0,[],[],Tryz.f105,[.agg [.int .i64,.slice 1,.slice 1]],[.c (.bool)],[(33,F33.S),(34,F34.S),(170,Zzd.S),(100,Zcm.S)]⟩
theorem Zvh:ZuB.S.Ok Tryz.prog 105:=ZuB.ok Tryz.func105 (by kernel_rfl) ⟨Zzv,⟨ZtA,⟨ZAR,⟨ZnB,trivial⟩⟩⟩⟩
noncomputable def Zws (a:Int) (b c:LL):Option (Bool):=ZuB.S.g [.i a,.l b,.l c]
noncomputable def Zcu (k:Nat) (a:Int) (b c d:LL) (e f:Int):Option (Bool):=ZuB.lp [0,1,1,1,0] 0 r0 k [.i a,.l b,.l c,.l d,.i e,.i f]
theorem ZgH (k:Nat) (g:Int) (b d e:LL) (f a:Int):Zcu (k+1) g b d e f a =
 (if (cop .lss a f) then
 Zm e a [.int .i64] fun (c:Int)=>
 (g34 c).bind fun h=>
 if (!h) then
 some (false)
 else
 ZE ((0:Int)≤a)<|
 ZE ((a:Int)≤(List.length b:Int))<|
 (ZBe (List.take (Int.toNat a) b) c).bind fun i=>
 if i then
 some (false)
 else
 Zcu k g b d e f (iop .add .i64 a 1)
 else
 (Zfo d).bind fun c=>
 some ((!c))):=by kernel_rfl
theorem Zt1 (b:Int) (a c:LL):Zws b a c =
 ((g33 b).bind fun d=>
 if (!d) then
 some (false)
 else
 if (cop .gtr (List.length a:Int) 32) then
 some (false)
 else
 if (cop .gtr (List.length c:Int) 16) then
 some (false)
 else
 Zcu Zr b a c a (List.length a:Int) 0):=by kernel_rfl
noncomputable def Zwe:Fn:=⟨8,[2],[],[],0,[],[],Tryz.f225,[.agg hs11],[.c (.bool)],[]⟩
theorem ZvP:Zwe.S.Ok Tryz.prog 225:=Zwe.ok Tryz.func225 (by kernel_rfl) trivial
noncomputable def ZBu (a c d:Int) (e:LL) (f h j k m n:Int) (o:Bool) (p q r s:Int):Option (Bool):=Zwe.S.g [.i a,.i c,.i d,.l e,.i f,.i h,.i j,.i k,.i m,.i n,.b o,.i p,.i q,.i r,.i s]
theorem Zoo (a b c:Int) (d:LL) (e f g h i j:Int) (k:Bool) (l m n o:Int):ZBu a b c d e f g h i j k l m n o =
 (some (((cop .eql a 0)&&((cop .eql b 0)&&((cop .eql c 0)&&true))))):=by kernel_rfl
noncomputable def ZyO:Fn:=⟨43,[2],[],[],0,[],[],Tryz.f203,[.agg hs11],[.c (.bool)],[(225,Zwe.S),(164,ZuK.S),(95,F95.S),(99,F99.S)]⟩
theorem ZAH:ZyO.S.Ok Tryz.prog 203:=ZyO.ok Tryz.func203 (by kernel_rfl) ⟨ZvP,⟨Zso,⟨Zuq,⟨ZyC,trivial⟩⟩⟩⟩
noncomputable def ZCr (a c d:Int) (e:LL) (f h j k m n:Int) (o:Bool) (p q r s:Int):Option (Bool):=ZyO.S.g [.i a,.i c,.i d,.l e,.i f,.i h,.i j,.i k,.i m,.i n,.b o,.i p,.i q,.i r,.i s]
theorem ZtD (d e f:Int) (g:LL) (h i j k l m:Int) (n:Bool) (o b c a:Int):ZCr d e f g h i j k l m n o b c a =
 (if (cop .lss o 0) then
 some (false)
 else
 if (cop .gtr o 1073741824) then
 some (false)
 else
 (ZBu d e f g h i j k l m n o b c a).bind fun q=>
 if q then
 (Zte d e f g h i j k l m n 0 0 0 E0 0 0 0 0 0 0 false).bind fun p=>
 if p then
 some (((cop .eql b 0)&&((cop .eql c 0)&&((cop .eql a 0)&&true))))
 else
 some (false)
 else
 (g95 d e f g h i j k l m n).bind fun p=>
 if p then
 if ((cop .eql b 0)&&((cop .eql c 0)&&((cop .eql a 0)&&true))) then
 some (true)
 else
 (g99 b c a).bind fun r=>
 if r then
 some ((cop .eql a 0))
 else
 some (false)
 else
 some (false)):=by kernel_rfl
noncomputable def ZvT:Fn:=⟨27,[4,5],[(2,[(3,.box [.int .i64,.int .i64,.int .i64]),(8,.c (.slice 15)),(9,.c (.int .i64)),(10,.c (.int .i64))])],[],0,[],[],Tryz.f204,[.c (.slice 15),.agg [.int .i64,.int .i64,.int .i64]],[.c (.int .i64),.c (.bool)],[(225,Zwe.S)]⟩
theorem ZA4:ZvT.S.Ok Tryz.prog 204:=ZvT.ok Tryz.func204 (by kernel_rfl) ⟨ZvP,trivial⟩
noncomputable def ZBX (a:LL) (b c d:Int):Option (Int×Bool):=ZvT.S.g [.l a,.i b,.i c,.i d]
noncomputable def Zdl (k:Nat) (a b c:Int) (d:LL) (e f:Int):Option (Int×Bool):=ZvT.lp [0] 0 r0 k [.i a,.i b,.i c,.l d,.i e,.i f]
theorem Zib (k:Nat) (c d e:Int) (f:LL) (g b:Int):Zdl (k+1) c d e f g b =
 (if (cop .lss b g) then
 Zm f b hs11 fun (a:Qt21)=>
 (ZBu a.1 a.2.1 a.2.2.1 a.2.2.2.1 a.2.2.2.2.1 a.2.2.2.2.2.1 a.2.2.2.2.2.2.1 a.2.2.2.2.2.2.2.1 a.2.2.2.2.2.2.2.2.1 a.2.2.2.2.2.2.2.2.2.1 a.2.2.2.2.2.2.2.2.2.2.1 a.2.2.2.2.2.2.2.2.2.2.2.1 (d4 (d8 a)).1 (d4 (d8 a)).2.1 (d2 (d4 (d8 a)))).bind fun h=>
 if (!h) then
 if ((cop .eql a.1 c)&&((cop .eql a.2.1 d)&&((cop .eql a.2.2.1 e)&&true))) then
 some (b,true)
 else
 Zdl k c d e f g (iop .add .i64 b 1)
 else
 Zdl k c d e f g (iop .add .i64 b 1)
 else
 some (0,false)):=by kernel_rfl
theorem ZtO (a:LL) (b c d:Int):ZBX a b c d =
 (Zdl Zr b c d a (List.length a:Int) 0):=by kernel_rfl
noncomputable def ZxF:Fn:=⟨32,[2],[(4,[(0,.c (.slice 15)),(10,.c (.slice 15)),(11,.c (.int .i64)),(12,.c (.int .i64))])],[],0,[],[],Tryz.f172,[.c (.slice 15)],[.c (.bool)],[(203,ZyO.S),(204,ZvT.S)]⟩
theorem Zz1:ZxF.S.Ok Tryz.prog 172:=ZxF.ok Tryz.func172 (by kernel_rfl) ⟨ZAH,⟨ZA4,trivial⟩⟩
noncomputable def ZBb (a:LL):Option (Bool):=ZxF.S.g [.l a]
noncomputable def ZeK (k:Nat) (a b:LL) (c d:Int):Option (Bool):=ZxF.lp [1,0] 0 r0 k [.l a,.l b,.i c,.i d]
theorem Zhx (k:Nat) (c d:LL) (e b:Int):ZeK (k+1) c d e b =
 (if (cop .lss b e) then
 Zm d b hs11 fun (a:Qt21)=>
 (ZCr a.1 a.2.1 a.2.2.1 a.2.2.2.1 a.2.2.2.2.1 a.2.2.2.2.2.1 a.2.2.2.2.2.2.1 a.2.2.2.2.2.2.2.1 a.2.2.2.2.2.2.2.2.1 a.2.2.2.2.2.2.2.2.2.1 a.2.2.2.2.2.2.2.2.2.2.1 a.2.2.2.2.2.2.2.2.2.2.2.1 (d4 (d8 a)).1 (d4 (d8 a)).2.1 (d2 (d4 (d8 a)))).bind fun f=>
 if (!f) then
 some (false)
 else
 ZE ((0:Int)≤b)<|
 ZE ((b:Int)≤(List.length c:Int))<|
 (ZBX (List.take (Int.toNat b) c) a.1 a.2.1 a.2.2.1).bind fun g=>
 if g.2 then
 some (false)
 else
 ZeK k c d e (iop .add .i64 b 1)
 else
 some (true)):=by kernel_rfl
theorem Ztc (a:LL):ZBb a =
 (if (cop .gtr (List.length a:Int) 64) then
 some (false)
 else
 ZeK Zr a a (List.length a:Int) 0):=by kernel_rfl
noncomputable def Zyx:Fn:=⟨6,[2],[],[],0,[],[],Tryz.f206,[.agg hs6],[.c (.bool)],[(90,F90.S)]⟩
theorem Zzs:Zyx.S.Ok Tryz.prog 206:=Zyx.ok Tryz.func206 (by kernel_rfl) ⟨ZC9,trivial⟩
noncomputable def ZCe (a c d e f h j k m n o p q r s t u v w x:Int) (y:LL) (z A C D E G:Int) (H:Bool):Option (Bool):=Zyx.S.g [.i a,.i c,.i d,.i e,.i f,.i h,.i j,.i k,.i m,.i n,.i o,.i p,.i q,.i r,.i s,.i t,.i u,.i v,.i w,.i x,.l y,.i z,.i A,.i C,.i D,.i E,.i G,.b H]
theorem ZrI (a b c d e f g h i j k l m n o p q r s t:Int) (u:LL) (v w x y z A:Int) (C:Bool):ZCe a b c d e f g h i j k l m n o p q r s t u v w x y z A C =
 ((g90 a b c d e f g h i j k l m n o p q r s t u v w x y z A C).bind fun D=>
 some ((!D))):=by kernel_rfl
noncomputable def ZaL:Fn:=⟨19,[4],[(2,[(0,.c (.slice 28)),(1,.clo 206 []),(7,.c (.int .i64)),(8,.c (.int .i64))])],[],0,[],[],Tryz.f226,[.c (.slice 28),.clo 206 []],[.c (.int .i64)],[(206,Zyx.S)]⟩
theorem Zn3:ZaL.S.Ok Tryz.prog 226:=ZaL.ok Tryz.func226 (by kernel_rfl) ⟨Zzs,trivial⟩
noncomputable def Zfi (a:LL):Option (Int):=ZaL.S.g [.l a]
noncomputable def KD (k:Nat) (a:LL) (b c:Int):Option (Int):=ZaL.lp [0] 0 r0 k [.l a,.i b,.i c]
theorem Za7 (k:Nat) (c:LL) (d b:Int):KD (k+1) c d b =
 (if (cop .lss b d) then
 Zm c b hs6 fun (a:Qt10)=>
 (ZCe a.1 a.2.1 a.2.2.1 a.2.2.2.1 a.2.2.2.2.1 a.2.2.2.2.2.1 a.2.2.2.2.2.2.1 a.2.2.2.2.2.2.2.1 a.2.2.2.2.2.2.2.2.1 a.2.2.2.2.2.2.2.2.2.1 a.2.2.2.2.2.2.2.2.2.2.1 a.2.2.2.2.2.2.2.2.2.2.2.1 (d4 (d8 a)).1 (d4 (d8 a)).2.1 (d2 (d4 (d8 a))).1 (d2 (d4 (d8 a))).2.1 (d16 a).1 (d16 a).2.1 (d2 (d16 a)).1 (d2 (d16 a)).2.1 (d4 (d16 a)).1 (d4 (d16 a)).2.1 (d2 (d4 (d16 a))).1 (d2 (d4 (d16 a))).2.1 (d8 (d16 a)).1 (d8 (d16 a)).2.1 (d2 (d8 (d16 a))).1 (d2 (d8 (d16 a))).2).bind fun e=>
 if e then
 some (b)
 else
 KD k c d (iop .add .i64 b 1)
 else
 some ((-1))):=by kernel_rfl
theorem Zi8 (a:LL):Zfi a =
 (KD Zr a (List.length a:Int) 0):=by kernel_rfl
noncomputable def Zcd:Fn:=⟨9,[4],[],[],0,[],[],Tryz.f205,[.c (.slice 28),.clo 206 []],[.c (.bool)],[(226,ZaL.S)]⟩
theorem Zm1:Zcd.S.Ok Tryz.prog 205:=Zcd.ok Tryz.func205 (by kernel_rfl) ⟨Zn3,trivial⟩
noncomputable def ZfJ (a:LL):Option (Bool):=Zcd.S.g [.l a]
theorem ZiC (a:LL):ZfJ a =
 ((Zfi a).bind fun b=>
 some ((cop .geq b 0))):=by kernel_rfl
noncomputable def ZyJ:Fn:=⟨6,[2],[],[],0,[],[],Tryz.f239,[.c (.int .i64)],[.c (.bool)],[]⟩
theorem ZAu:ZyJ.S.Ok Tryz.prog 239:=ZyJ.ok Tryz.func239 (by kernel_rfl) trivial
noncomputable def Zy4 (a:Int):Option (Bool):=ZyJ.S.g [.i a]
theorem ZsL (a:Int):Zy4 a =
 (some ((cop .neq a a))):=by kernel_rfl
noncomputable def Zzn:Fn:=⟨20,[4],[],[],0,[],[],Tryz.f238,[.c (.int .i64),.c (.int .i64)],[.c (.int .i64)],[(239,ZyJ.S)]⟩
theorem ZAe:Zzn.S.Ok Tryz.prog 238:=Zzn.ok Tryz.func238 (by kernel_rfl) ⟨ZAu,trivial⟩
noncomputable def Zwc (a b:Int):Option (Int):=Zzn.S.g [.i a,.i b]
theorem Zs5 (a b:Int):Zwc a b =
 ((Zy4 a).bind fun d=>
 (Zy4 b).bind fun c=>
 if d then
 if c then
 some (0)
 else
 some ((-1))
 else
 if c then
 some (1)
 else
 if (cop .lss a b) then
 some ((-1))
 else
 if (cop .gtr a b) then
 some (1)
 else
 some (0)):=by kernel_rfl
noncomputable def Zx9:Fn:=⟨18,[2],[(3,[(3,.c (.int .i64)),(6,.c (.slice 1)),(7,.c (.int .i64)),(8,.c (.int .i64))])],[],0,[],[],Tryz.f237,[.c (.slice 1)],[.c (.int .i64)],[]⟩
theorem ZAd:Zx9.S.Ok Tryz.prog 237:=Zx9.ok Tryz.func237 (by kernel_rfl) trivial
noncomputable def ZBZ (a:LL):Option (Int):=Zx9.S.g [.l a]
noncomputable def Zmw (k:Nat) (a:Int) (b:LL) (c d:Int):Option (Int):=Zx9.lp [0] 0 r0 k [.i a,.l b,.i c,.i d]
theorem Za5 (k:Nat) (a:Int) (c:LL) (d b:Int):Zmw (k+1) a c d b =
 (if (cop .lss b d) then
 Zm c b [.int .i64] fun (e:Int)=>
 if (cop .neq e a) then
 some (e)
 else
 Zmw k a c d (iop .add .i64 b 1)
 else
 some (a)):=by kernel_rfl
theorem Zsp (a:LL):ZBZ a =
 (Zmw Zr 0 a (List.length a:Int) 0):=by kernel_rfl
noncomputable def Zyu:Fn:=⟨22,[4],[],[],0,[],[],Tryz.f227,[.agg [.int .i64,.int .i64,.int .i64],.agg [.int .i64,.int .i64,.int .i64]],[.c (.int .i64)],[(238,Zzn.S),(237,Zx9.S)]⟩
theorem ZBK:Zyu.S.Ok Tryz.prog 227:=Zyu.ok Tryz.func227 (by kernel_rfl) ⟨ZAe,⟨ZAd,trivial⟩⟩
noncomputable def ZBR (a b c d e f:Int):Option (Int):=Zyu.S.g [.i a,.i b,.i c,.i d,.i e,.i f]
theorem ZrF (a b c d e f:Int):ZBR a b c d e f =
 ((Zwc a d).bind fun g=>
 (Zwc b e).bind fun h=>
 (Zwc c f).bind fun i=>
 (ZBZ (((E0++[[AV.val (.int .i64 g)]])++[[AV.val (.int .i64 h)]])++[[AV.val (.int .i64 i)]])).bind fun j=>
 some (j)):=by kernel_rfl
noncomputable def Zxz:Fn:=⟨9,[4],[],[],0,[],[],Tryz.f208,[.agg [.int .i64,.int .i64,.int .i64],.agg [.int .i64,.int .i64,.int .i64]],[.c (.bool)],[(227,Zyu.S)]⟩
theorem ZvW:Zxz.S.Ok Tryz.prog 208:=Zxz.ok Tryz.func208 (by kernel_rfl) ⟨ZBK,trivial⟩
noncomputable def Zy1 (a b c d e f:Int):Option (Bool):=Zxz.S.g [.i a,.i b,.i c,.i d,.i e,.i f]
theorem Zsu (a b c d e f:Int):Zy1 a b c d e f =
 ((ZBR a b c d e f).bind fun g=>
 some ((cop .lss g 0))):=by kernel_rfl
noncomputable def Zzm:Fn:=⟨17,[5],[],[2],0,[],[],Tryz.f207,[.c (.int .i64),.c (.int .i64),.box [.slice 28]],[.c (.bool)],[(208,Zxz.S)]⟩
theorem ZAE:Zzm.S.Ok Tryz.prog 207:=Zzm.ok Tryz.func207 (by kernel_rfl) ⟨ZvW,trivial⟩
noncomputable def ZB3 (a b:Int) (c:LL):Option (Bool×LL):=Zzm.S.g [.i a,.i b,.l c]
theorem Zui (d e:Int) (a:LL):ZB3 d e a =
 (Zm a d hs6 fun (b:Qt10)=>
 Zm a e hs6 fun (c:Qt10)=>
 (Zy1 b.1 b.2.1 b.2.2.1 c.1 c.2.1 c.2.2.1).bind fun f=>
 some (f,a)):=by kernel_rfl
noncomputable def Zas:Fn:=⟨17,[4],[(2,[(0,.c (.int .i64)),(1,.clo 207 [17]),(5,.c (.int .i64)),(17,.gbox [.slice 28])])],[],1,[],[],Tryz.f102,[.c (.int .i64),.clo 207 [17],.dead,.dead,.dead,.dead,.dead,.dead,.dead,.dead,.dead,.dead,.dead,.dead,.dead,.dead,.dead,.gbox [.slice 28]],[.c (.bool)],[(207,Zzm.S)]⟩
theorem Zoh:Zas.S.Ok Tryz.prog 102:=Zas.ok Tryz.func102 (by kernel_rfl) ⟨ZAE,trivial⟩
noncomputable def Zf1 (a:Int) (b:LL):Option (Bool×LL):=Zas.S.g [.i a,.l b]
noncomputable def KI (k:Nat) (a b:Int) (c:LL):Option (Bool×LL):=Zas.lp [0] 0 r0 k [.i a,.i b,.l c]
theorem Zaw (k:Nat) (b a:Int) (c:LL):KI (k+1) b a c =
 (if (cop .lss a b) then
 (ZB3 (iop .sub .i64 a 1) a c).bind fun d=>
 if (!d.1) then
 some (false,d.2)
 else
 KI k b (iop .add .i64 a 1) d.2
 else
 some (true,c)):=by kernel_rfl
theorem Zie (a:Int) (b:LL):Zf1 a b =
 (KI Zr a 1 b):=by kernel_rfl
noncomputable def Zy2:Fn:=⟨12,[2],[],[],0,[],[],Tryz.f173,[.c (.slice 28)],[.c (.bool)],[(205,Zcd.S),(102,Zas.S)]⟩
theorem ZAg:Zy2.S.Ok Tryz.prog 173:=Zy2.ok Tryz.func173 (by kernel_rfl) ⟨Zm1,⟨Zoh,trivial⟩⟩
noncomputable def ZB4 (a:LL):Option (Bool):=Zy2.S.g [.l a]
theorem Zsv (a:LL):ZB4 a =
 ((ZfJ a).bind fun b=>
 if (!b) then
 (Zf1 (List.length a:Int) a).bind fun c=>
 some (c.1)
 else
 some (false)):=by kernel_rfl
noncomputable def ZyA:Fn:=⟨13,[2],[],[],0,[],[],Tryz.f210,[.agg [.int .i64,.int .i64,.int .i64,.int .i64]],[.c (.bool)],[(89,F89.S),(91,F91.S)]⟩
theorem Zz8:ZyA.S.Ok Tryz.prog 210:=ZyA.ok Tryz.func210 (by kernel_rfl) ⟨Zyf,⟨Zys,trivial⟩⟩
noncomputable def ZA3 (a b c d:Int):Option (Bool):=ZyA.S.g [.i a,.i b,.i c,.i d]
theorem Zs7 (a b c d:Int):ZA3 a b c d =
 ((g89 a).bind fun e=>
 if (!e) then
 some (true)
 else
 (g91 b c d).bind fun f=>
 some ((!f))):=by kernel_rfl
noncomputable def Zao:Fn:=⟨19,[4],[(2,[(0,.c (.slice 4)),(1,.clo 210 []),(7,.c (.int .i64)),(8,.c (.int .i64))])],[],0,[],[],Tryz.f228,[.c (.slice 4),.clo 210 []],[.c (.int .i64)],[(210,ZyA.S)]⟩
theorem Zn4:Zao.S.Ok Tryz.prog 228:=Zao.ok Tryz.func228 (by kernel_rfl) ⟨Zz8,trivial⟩
noncomputable def Zfb (a:LL):Option (Int):=Zao.S.g [.l a]
noncomputable def KF (k:Nat) (a:LL) (b c:Int):Option (Int):=Zao.lp [0] 0 r0 k [.l a,.i b,.i c]
theorem ZaK (k:Nat) (c:LL) (d a:Int):KF (k+1) c d a =
 (if (cop .lss a d) then
 Zm c a [.int .i64,.int .i64,.int .i64,.int .i64] fun (b:Int×Int×Int×Int)=>
 (ZA3 b.1 b.2.1 b.2.2.1 b.2.2.2).bind fun e=>
 if e then
 some (a)
 else
 KF k c d (iop .add .i64 a 1)
 else
 some ((-1))):=by kernel_rfl
theorem Zjo (a:LL):Zfb a =
 (KF Zr a (List.length a:Int) 0):=by kernel_rfl
noncomputable def Zck:Fn:=⟨9,[4],[],[],0,[],[],Tryz.f209,[.c (.slice 4),.clo 210 []],[.c (.bool)],[(228,Zao.S)]⟩
theorem ZoJ:Zck.S.Ok Tryz.prog 209:=Zck.ok Tryz.func209 (by kernel_rfl) ⟨Zn4,trivial⟩
noncomputable def ZfU (a:LL):Option (Bool):=Zck.S.g [.l a]
theorem ZiA (a:LL):ZfU a =
 ((Zfb a).bind fun b=>
 some ((cop .geq b 0))):=by kernel_rfl
noncomputable def Zzp:Fn:=⟨17,[5],[],[2],0,[],[],Tryz.f211,[.c (.int .i64),.c (.int .i64),.box [.slice 4]],[.c (.bool)],[]⟩
theorem ZAc:Zzp.S.Ok Tryz.prog 211:=Zzp.ok Tryz.func211 (by kernel_rfl) trivial
noncomputable def ZAz (a b:Int) (c:LL):Option (Bool×LL):=Zzp.S.g [.i a,.i b,.l c]
theorem Zuc (b c:Int) (a:LL):ZAz b c a =
 (Zm a b [.int .i64,.int .i64,.int .i64,.int .i64] fun (d:Int×Int×Int×Int)=>
 Zm a c [.int .i64,.int .i64,.int .i64,.int .i64] fun (e:Int×Int×Int×Int)=>
 some ((cop .lss d.1 e.1),a)):=by kernel_rfl
noncomputable def Zat:Fn:=⟨17,[4],[(2,[(0,.c (.int .i64)),(1,.clo 211 [17]),(5,.c (.int .i64)),(17,.gbox [.slice 4])])],[],1,[],[],Tryz.f102,[.c (.int .i64),.clo 211 [17],.dead,.dead,.dead,.dead,.dead,.dead,.dead,.dead,.dead,.dead,.dead,.dead,.dead,.dead,.dead,.gbox [.slice 4]],[.c (.bool)],[(211,Zzp.S)]⟩
theorem Zom:Zat.S.Ok Tryz.prog 102:=Zat.ok Tryz.func102 (by kernel_rfl) ⟨ZAc,trivial⟩
noncomputable def ZfS (a:Int) (b:LL):Option (Bool×LL):=Zat.S.g [.i a,.l b]
noncomputable def KE (k:Nat) (a b:Int) (c:LL):Option (Bool×LL):=Zat.lp [0] 0 r0 k [.i a,.i b,.l c]
theorem Zar (k:Nat) (b a:Int) (c:LL):KE (k+1) b a c =
 (if (cop .lss a b) then
 (ZAz (iop .sub .i64 a 1) a c).bind fun d=>
 if (!d.1) then
 some (false,d.2)
 else
 KE k b (iop .add .i64 a 1) d.2
 else
 some (true,c)):=by kernel_rfl
theorem ZiF (a:Int) (b:LL):ZfS a b =
 (KE Zr a 1 b):=by kernel_rfl
noncomputable def Zyg:Fn:=⟨12,[2],[],[],0,[],[],Tryz.f174,[.c (.slice 4)],[.c (.bool)],[(209,Zck.S),(102,Zat.S)]⟩
theorem ZAr:Zyg.S.Ok Tryz.prog 174:=Zyg.ok Tryz.func174 (by kernel_rfl) ⟨ZoJ,⟨Zom,trivial⟩⟩
noncomputable def ZA1 (a:LL):Option (Bool):=Zyg.S.g [.l a]
theorem Zsf (a:LL):ZA1 a =
 ((ZfU a).bind fun b=>
 if (!b) then
 (ZfS (List.length a:Int) a).bind fun c=>
 some (c.1)
 else
 some (false)):=by kernel_rfl
noncomputable def Zzk:Fn:=⟨17,[2],[],[],0,[],[],Tryz.f213,[.agg [.int .i64,.int .i64]],[.c (.bool)],[(92,F92.S)]⟩
theorem ZBV:Zzk.S.Ok Tryz.prog 213:=Zzk.ok Tryz.func213 (by kernel_rfl) ⟨ZDz,trivial⟩
noncomputable def ZzV (a b:Int):Option (Bool):=Zzk.S.g [.i a,.i b]
theorem ZsD (a b:Int):ZzV a b =
 (if (cop .lss a 1) then
 some (true)
 else
 if (cop .gtr a 1073741824) then
 some (true)
 else
 (g92 b).bind fun c=>
 some ((!c))):=by kernel_rfl
noncomputable def Zap:Fn:=⟨19,[4],[(2,[(0,.c (.slice 2)),(1,.clo 213 []),(7,.c (.int .i64)),(8,.c (.int .i64))])],[],0,[],[],Tryz.f229,[.c (.slice 2),.clo 213 []],[.c (.int .i64)],[(213,Zzk.S)]⟩
theorem Zmx:Zap.S.Ok Tryz.prog 229:=Zap.ok Tryz.func229 (by kernel_rfl) ⟨ZBV,trivial⟩
noncomputable def Zfj (a:LL):Option (Int):=Zap.S.g [.l a]
noncomputable def KK (k:Nat) (a:LL) (b c:Int):Option (Int):=Zap.lp [0] 0 r0 k [.l a,.i b,.i c]
theorem ZaA (k:Nat) (b:LL) (c a:Int):KK (k+1) b c a =
 (if (cop .lss a c) then
 Zm b a [.int .i64,.int .i64] fun (d:Int×Int)=>
 (ZzV d.1 d.2).bind fun e=>
 if e then
 some (a)
 else
 KK k b c (iop .add .i64 a 1)
 else
 some ((-1))):=by kernel_rfl
theorem Ziw (a:LL):Zfj a =
 (KK Zr a (List.length a:Int) 0):=by kernel_rfl
noncomputable def Zce:Fn:=⟨9,[4],[],[],0,[],[],Tryz.f212,[.c (.slice 2),.clo 213 []],[.c (.bool)],[(229,Zap.S)]⟩
theorem Zm5:Zce.S.Ok Tryz.prog 212:=Zce.ok Tryz.func212 (by kernel_rfl) ⟨Zmx,trivial⟩
noncomputable def ZfC (a:LL):Option (Bool):=Zce.S.g [.l a]
theorem ZiV (a:LL):ZfC a =
 ((Zfj a).bind fun b=>
 some ((cop .geq b 0))):=by kernel_rfl
noncomputable def Zy3:Fn:=⟨17,[5],[],[2],0,[],[],Tryz.f214,[.c (.int .i64),.c (.int .i64),.box [.slice 2]],[.c (.bool)],[]⟩
theorem ZBF:Zy3.S.Ok Tryz.prog 214:=Zy3.ok Tryz.func214 (by kernel_rfl) trivial
noncomputable def ZBl (a b:Int) (c:LL):Option (Bool×LL):=Zy3.S.g [.i a,.i b,.l c]
theorem ZrV (b c:Int) (a:LL):ZBl b c a =
 (Zm a b [.int .i64,.int .i64] fun (d:Int×Int)=>
 Zm a c [.int .i64,.int .i64] fun (e:Int×Int)=>
 some ((cop .lss d.1 e.1),a)):=by kernel_rfl
noncomputable def Za8:Fn:=⟨17,[4],[(2,[(0,.c (.int .i64)),(1,.clo 214 [17]),(5,.c (.int .i64)),(17,.gbox [.slice 2])])],[],1,[],[],Tryz.f102,[.c (.int .i64),.clo 214 [17],.dead,.dead,.dead,.dead,.dead,.dead,.dead,.dead,.dead,.dead,.dead,.dead,.dead,.dead,.dead,.gbox [.slice 2]],[.c (.bool)],[(214,Zy3.S)]⟩
theorem Zni:Za8.S.Ok Tryz.prog 102:=Za8.ok Tryz.func102 (by kernel_rfl) ⟨ZBF,trivial⟩
noncomputable def ZfV (a:Int) (b:LL):Option (Bool×LL):=Za8.S.g [.i a,.l b]
noncomputable def KN (k:Nat) (a b:Int) (c:LL):Option (Bool×LL):=Za8.lp [0] 0 r0 k [.i a,.i b,.l c]
theorem ZaF (k:Nat) (b a:Int) (c:LL):KN (k+1) b a c =
 (if (cop .lss a b) then
 (ZBl (iop .sub .i64 a 1) a c).bind fun d=>
 if (!d.1) then
 some (false,d.2)
 else
 KN k b (iop .add .i64 a 1) d.2
 else
 some (true,c)):=by kernel_rfl
theorem Zim (a:Int) (b:LL):ZfV a b =
 (KN Zr a 1 b):=by kernel_rfl
noncomputable def Zy6:Fn:=⟨12,[2],[],[],0,[],[],Tryz.f175,[.c (.slice 2)],[.c (.bool)],[(212,Zce.S),(102,Za8.S)]⟩
theorem ZAJ:Zy6.S.Ok Tryz.prog 175:=Zy6.ok Tryz.func175 (by kernel_rfl) ⟨Zm5,⟨Zni,trivial⟩⟩
noncomputable def ZAS (a:LL):Option (Bool):=Zy6.S.g [.l a]
theorem ZrD (a:LL):ZAS a =
 ((ZfC a).bind fun b=>
 if (!b) then
 (ZfV (List.length a:Int) a).bind fun c=>
 some (c.1)
 else
 some (false)):=by kernel_rfl
noncomputable def ZyD:Fn:=⟨19,[2],[],[],0,[],[],Tryz.f216,[.agg hs12],[.c (.bool)],[(34,F34.S),(96,F96.S),(95,F95.S)]⟩
theorem ZzD:ZyD.S.Ok Tryz.prog 216:=ZyD.ok Tryz.func216 (by kernel_rfl) ⟨ZtA,⟨ZDi,⟨Zuq,trivial⟩⟩⟩
noncomputable def ZCn (a c d e f:Int) (h:LL) (j k m n o p:Int) (q:Bool):Option (Bool):=ZyD.S.g [.i a,.i c,.i d,.i e,.i f,.l h,.i j,.i k,.i m,.i n,.i o,.i p,.b q]
theorem ZtE (a b c d e:Int) (f:LL) (g h i j k l:Int) (m:Bool):ZCn a b c d e f g h i j k l m =
 ((g34 a).bind fun n=>
 if (!n) then
 some (true)
 else
 (g96 b).bind fun o=>
 if (!o) then
 some (true)
 else
 (g95 c d e f g h i j k l m).bind fun p=>
 some ((!p))):=by kernel_rfl
noncomputable def Zba:Fn:=⟨19,[4],[(2,[(0,.c (.slice 13)),(1,.clo 216 []),(7,.c (.int .i64)),(8,.c (.int .i64))])],[],0,[],[],Tryz.f230,[.c (.slice 13),.clo 216 []],[.c (.int .i64)],[(216,ZyD.S)]⟩
theorem Zoe:Zba.S.Ok Tryz.prog 230:=Zba.ok Tryz.func230 (by kernel_rfl) ⟨ZzD,trivial⟩
noncomputable def ZfK (a:LL):Option (Int):=Zba.S.g [.l a]
noncomputable def KS (k:Nat) (a:LL) (b c:Int):Option (Int):=Zba.lp [0] 0 r0 k [.l a,.i b,.i c]
theorem ZaY (k:Nat) (c:LL) (d b:Int):KS (k+1) c d b =
 (if (cop .lss b d) then
 Zm c b hs12 fun (a:Qt25)=>
 (ZCn a.1 a.2.1 a.2.2.1 a.2.2.2.1 a.2.2.2.2.1 a.2.2.2.2.2.1 a.2.2.2.2.2.2.1 a.2.2.2.2.2.2.2.1 a.2.2.2.2.2.2.2.2.1 a.2.2.2.2.2.2.2.2.2.1 a.2.2.2.2.2.2.2.2.2.2.1 a.2.2.2.2.2.2.2.2.2.2.2.1 (d4 (d8 a))).bind fun e=>
 if e then
 some (b)
 else
 KS k c d (iop .add .i64 b 1)
 else
 some ((-1))):=by kernel_rfl
theorem ZiM (a:LL):ZfK a =
 (KS Zr a (List.length a:Int) 0):=by kernel_rfl
noncomputable def Zco:Fn:=⟨9,[4],[],[],0,[],[],Tryz.f215,[.c (.slice 13),.clo 216 []],[.c (.bool)],[(230,Zba.S)]⟩
theorem Zn8:Zco.S.Ok Tryz.prog 215:=Zco.ok Tryz.func215 (by kernel_rfl) ⟨Zoe,trivial⟩
noncomputable def Zf8 (a:LL):Option (Bool):=Zco.S.g [.l a]
theorem Zjb (a:LL):Zf8 a =
 ((ZfK a).bind fun b=>
 some ((cop .geq b 0))):=by kernel_rfl
noncomputable def ZyY:Fn:=⟨19,[5],[],[2],0,[],[],Tryz.f217,[.c (.int .i64),.c (.int .i64),.box [.slice 13]],[.c (.bool)],[(208,Zxz.S)]⟩
theorem ZBT:ZyY.S.Ok Tryz.prog 217:=ZyY.ok Tryz.func217 (by kernel_rfl) ⟨ZvW,trivial⟩
noncomputable def Zz9 (a b:Int) (c:LL):Option (Bool×LL):=ZyY.S.g [.i a,.i b,.l c]
theorem Zul (d e:Int) (a:LL):Zz9 d e a =
 (Zm a d hs12 fun (b:Qt25)=>
 Zm a e hs12 fun (c:Qt25)=>
 (Zy1 b.2.2.1 b.2.2.2.1 b.2.2.2.2.1 c.2.2.1 c.2.2.2.1 c.2.2.2.2.1).bind fun f=>
 some (f,a)):=by kernel_rfl
noncomputable def ZaC:Fn:=⟨17,[4],[(2,[(0,.c (.int .i64)),(1,.clo 217 [17]),(5,.c (.int .i64)),(17,.gbox [.slice 13])])],[],1,[],[],Tryz.f102,[.c (.int .i64),.clo 217 [17],.dead,.dead,.dead,.dead,.dead,.dead,.dead,.dead,.dead,.dead,.dead,.dead,.dead,.dead,.dead,.gbox [.slice 13]],[.c (.bool)],[(217,ZyY.S)]⟩
theorem ZmC:ZaC.S.Ok Tryz.prog 102:=ZaC.ok Tryz.func102 (by kernel_rfl) ⟨ZBT,trivial⟩
noncomputable def Zgg (a:Int) (b:LL):Option (Bool×LL):=ZaC.S.g [.i a,.l b]
noncomputable def KM (k:Nat) (a b:Int) (c:LL):Option (Bool×LL):=ZaC.lp [0] 0 r0 k [.i a,.i b,.l c]
theorem ZaP (k:Nat) (b a:Int) (c:LL):KM (k+1) b a c =
 (if (cop .lss a b) then
 (Zz9 (iop .sub .i64 a 1) a c).bind fun d=>
 if (!d.1) then
 some (false,d.2)
 else
 KM k b (iop .add .i64 a 1) d.2
 else
 some (true,c)):=by kernel_rfl
theorem ZiI (a:Int) (b:LL):Zgg a b =
 (KM Zr a 1 b):=by kernel_rfl
noncomputable def Zzb:Fn:=⟨12,[2],[],[],0,[],[],Tryz.f176,[.c (.slice 13)],[.c (.bool)],[(215,Zco.S),(102,ZaC.S)]⟩
theorem ZCk:Zzb.S.Ok Tryz.prog 176:=Zzb.ok Tryz.func176 (by kernel_rfl) ⟨Zn8,⟨ZmC,trivial⟩⟩
noncomputable def ZBH (a:LL):Option (Bool):=Zzb.S.g [.l a]
theorem ZsX (a:LL):ZBH a =
 ((Zf8 a).bind fun b=>
 if (!b) then
 (Zgg (List.length a:Int) a).bind fun c=>
 some (c.1)
 else
 some (false)):=by kernel_rfl
noncomputable def Zyp:Fn:=⟨6,[2],[],[],0,[],[],Tryz.f177,[.agg [.int .i64,.int .i64,.int .i64]],[.c (.bool)],[(91,F91.S)]⟩
theorem Zzz:Zyp.S.Ok Tryz.prog 177:=Zyp.ok Tryz.func177 (by kernel_rfl) ⟨Zys,trivial⟩
noncomputable def ZA7 (a b c:Int):Option (Bool):=Zyp.S.g [.i a,.i b,.i c]
theorem ZtY (a b c:Int):ZA7 a b c =
 ((g91 a b c).bind fun d=>
 some ((!d))):=by kernel_rfl
noncomputable def ZaQ:Fn:=⟨19,[4],[(2,[(0,.c (.slice 3)),(1,.clo 177 []),(7,.c (.int .i64)),(8,.c (.int .i64))])],[],0,[],[],Tryz.f168,[.c (.slice 3),.clo 177 []],[.c (.int .i64)],[(177,Zyp.S)]⟩
theorem Zmv:ZaQ.S.Ok Tryz.prog 168:=ZaQ.ok Tryz.func168 (by kernel_rfl) ⟨Zzz,trivial⟩
noncomputable def Zfc (a:LL):Option (Int):=ZaQ.S.g [.l a]
noncomputable def KQ (k:Nat) (a:LL) (b c:Int):Option (Int):=ZaQ.lp [0] 0 r0 k [.l a,.i b,.i c]
theorem Za2 (k:Nat) (b:LL) (c a:Int):KQ (k+1) b c a =
 (if (cop .lss a c) then
 Zm b a [.int .i64,.int .i64,.int .i64] fun (d:Int×Int×Int)=>
 (ZA7 d.1 d.2.1 d.2.2).bind fun e=>
 if e then
 some (a)
 else
 KQ k b c (iop .add .i64 a 1)
 else
 some ((-1))):=by kernel_rfl
theorem Ziq (a:LL):Zfc a =
 (KQ Zr a (List.length a:Int) 0):=by kernel_rfl
noncomputable def Zfh:Fn:=⟨9,[4],[],[],0,[],[],Tryz.f97,[.c (.slice 3),.clo 177 []],[.c (.bool)],[(168,ZaQ.S)]⟩
theorem Zqz:Zfh.S.Ok Tryz.prog 97:=Zfh.ok Tryz.func97 (by kernel_rfl) ⟨Zmv,trivial⟩
noncomputable def Zjm (a:LL):Option (Bool):=Zfh.S.g [.l a]
theorem Zl5 (a:LL):Zjm a =
 ((Zfc a).bind fun b=>
 some ((cop .geq b 0))):=by kernel_rfl
noncomputable def ZvY:Fn:=⟨32,[2],[],[],0,[],[],Tryz.f106,[.agg hs30],[.c (.bool)],[(172,ZxF.S),(173,Zy2.S),(174,Zyg.S),(175,Zy6.S),(176,Zzb.S),(97,Zfh.S)]⟩
theorem ZxL:ZvY.S.Ok Tryz.prog 106:=ZvY.ok Tryz.func106 (by kernel_rfl) ⟨Zz1,⟨ZAg,⟨ZAr,⟨ZAJ,⟨ZCk,⟨Zqz,trivial⟩⟩⟩⟩⟩⟩
noncomputable def Zvv (a b c d e f:LL):Option (Bool):=ZvY.S.g [.l a,.l b,.l c,.l d,.l e,.l f]
theorem Zsi (a b c d e f:LL):Zvv a b c d e f =
 ((ZBb a).bind fun g=>
 if g then
 (ZB4 b).bind fun h=>
 if h then
 (ZA1 c).bind fun i=>
 if i then
 (ZAS d).bind fun j=>
 if j then
 (ZBH e).bind fun k=>
 if k then
 (Zjm f).bind fun l=>
 some ((!l))
 else
 some (false)
 else
 some (false)
 else
 some (false)
 else
 some (false)
 else
 some (false)):=by kernel_rfl
noncomputable def ZyB:Fn:=⟨26,[2],[],[],0,[],[],Tryz.f104,[.agg hs7],[.c (.bool)],[(34,F34.S),(105,ZuB.S),(106,ZvY.S)]⟩
theorem ZCl:ZyB.S.Ok Tryz.prog 104:=ZyB.ok Tryz.func104 (by kernel_rfl) ⟨ZtA,⟨Zvh,⟨ZxL,trivial⟩⟩⟩
noncomputable def ZzK (a c:Int) (d e f h j k m n:LL) (o:Bool) (p:Int) (q r s t u v w x:LL):Option (Bool):=ZyB.S.g [.i a,.i c,.l d,.l e,.l f,.l h,.l j,.l k,.l m,.l n,.b o,.i p,.l q,.l r,.l s,.l t,.l u,.l v,.l w,.l x]
theorem Zs1 (a b:Int) (c d e f g h i j:LL) (t:Bool) (k:Int) (l m n o p q r s:LL):ZzK a b c d e f g h i j t k l m n o p q r s =
 ((g34 a).bind fun u=>
 if u then
 (Zws b c d).bind fun v=>
 if v then
 (Zvv e f g h i j).bind fun w=>
 if w then
 (Zws k l m).bind fun x=>
 if x then
 (Zvv n o p q r s).bind fun y=>
 some (y)
 else
 some (false)
 else
 some (false)
 else
 some (false)
 else
 some (false)):=by kernel_rfl
noncomputable def F94:Fn:=⟨6,[2],[],[],0,[],[],Tryz.f94,[.agg hs16],[.c (.bool)],[(95,F95.S)]⟩
theorem ZFh:F94.S.Ok Tryz.prog 94:=F94.ok Tryz.func94 (by kernel_rfl) ⟨Zuq,trivial⟩
noncomputable def g94 (a c d:Int) (e:LL) (f h j k m n:Int) (o:Bool):Option (Bool):=F94.S.g [.i a,.i c,.i d,.l e,.i f,.i h,.i j,.i k,.i m,.i n,.b o]
theorem ZwE (a b c:Int) (d:LL) (e f g h i j:Int) (k:Bool):g94 a b c d e f g h i j k =
 ((g95 a b c d e f g h i j k).bind fun l=>
 some ((!l))):=by kernel_rfl
noncomputable def Zdy:Fn:=⟨19,[4],[(2,[(0,.c (.slice 11)),(1,.clo 94 []),(7,.c (.int .i64)),(8,.c (.int .i64))])],[],0,[],[],Tryz.f165,[.c (.slice 11),.clo 94 []],[.c (.int .i64)],[(94,F94.S)]⟩
theorem Zpc:Zdy.S.Ok Tryz.prog 165:=Zdy.ok Tryz.func165 (by kernel_rfl) ⟨ZFh,trivial⟩
noncomputable def Zjd (a:LL):Option (Int):=Zdy.S.g [.l a]
noncomputable def Vq (k:Nat) (a:LL) (b c:Int):Option (Int):=Zdy.lp [0] 0 r0 k [.l a,.i b,.i c]
theorem ZbJ (k:Nat) (c:LL) (d b:Int):Vq (k+1) c d b =
 (if (cop .lss b d) then
 Zm c b hs16 fun (a:Qt31)=>
 (g94 a.1 a.2.1 a.2.2.1 a.2.2.2.1 a.2.2.2.2.1 a.2.2.2.2.2.1 a.2.2.2.2.2.2.1 a.2.2.2.2.2.2.2.1 a.2.2.2.2.2.2.2.2.1 a.2.2.2.2.2.2.2.2.2.1 a.2.2.2.2.2.2.2.2.2.2).bind fun e=>
 if e then
 some (b)
 else
 Vq k c d (iop .add .i64 b 1)
 else
 some ((-1))):=by kernel_rfl
theorem ZlC (a:LL):Zjd a =
 (Vq Zr a (List.length a:Int) 0):=by kernel_rfl
noncomputable def Zle:Fn:=⟨9,[4],[],[],0,[],[],Tryz.f93,[.c (.slice 11),.clo 94 []],[.c (.bool)],[(165,Zdy.S)]⟩
theorem ZrM:Zle.S.Ok Tryz.prog 93:=Zle.ok Tryz.func93 (by kernel_rfl) ⟨Zpc,trivial⟩
noncomputable def Ze0 (a:LL):Option (Bool):=Zle.S.g [.l a]
theorem Znm (a:LL):Ze0 a =
 ((Zjd a).bind fun b=>
 some ((cop .geq b 0))):=by kernel_rfl
noncomputable def F98:Fn:=⟨6,[2],[],[],0,[],[],Tryz.f98,[.agg [.int .i64,.int .i64,.int .i64]],[.c (.bool)],[(99,F99.S)]⟩
theorem ZE9:F98.S.Ok Tryz.prog 98:=F98.ok Tryz.func98 (by kernel_rfl) ⟨ZyC,trivial⟩
noncomputable def g98 (a b c:Int):Option (Bool):=F98.S.g [.i a,.i b,.i c]
theorem ZvZ (a b c:Int):g98 a b c =
 ((g99 a b c).bind fun d=>
 some ((!d))):=by kernel_rfl
noncomputable def Zdv:Fn:=⟨19,[4],[(2,[(0,.c (.slice 3)),(1,.clo 98 []),(7,.c (.int .i64)),(8,.c (.int .i64))])],[],0,[],[],Tryz.f168,[.c (.slice 3),.clo 98 []],[.c (.int .i64)],[(98,F98.S)]⟩
theorem Zp8:Zdv.S.Ok Tryz.prog 168:=Zdv.ok Tryz.func168 (by kernel_rfl) ⟨ZE9,trivial⟩
noncomputable def Zi3 (a:LL):Option (Int):=Zdv.S.g [.l a]
noncomputable def Vo (k:Nat) (a:LL) (b c:Int):Option (Int):=Zdv.lp [0] 0 r0 k [.l a,.i b,.i c]
theorem ZbI (k:Nat) (b:LL) (c a:Int):Vo (k+1) b c a =
 (if (cop .lss a c) then
 Zm b a [.int .i64,.int .i64,.int .i64] fun (d:Int×Int×Int)=>
 (g98 d.1 d.2.1 d.2.2).bind fun e=>
 if e then
 some (a)
 else
 Vo k b c (iop .add .i64 a 1)
 else
 some ((-1))):=by kernel_rfl
theorem Zlo (a:LL):Zi3 a =
 (Vo Zr a (List.length a:Int) 0):=by kernel_rfl
noncomputable def ZjM:Fn:=⟨9,[4],[],[],0,[],[],Tryz.f97,[.c (.slice 3),.clo 98 []],[.c (.bool)],[(168,Zdv.S)]⟩
theorem ZrC:ZjM.S.Ok Tryz.prog 97:=ZjM.ok Tryz.func97 (by kernel_rfl) ⟨Zp8,trivial⟩
noncomputable def Zlj (a:LL):Option (Bool):=ZjM.S.g [.l a]
theorem Znv (a:LL):Zlj a =
 ((Zi3 a).bind fun b=>
 some ((cop .geq b 0))):=by kernel_rfl
noncomputable def Zy0:Fn:=⟨6,[2],[],[],0,[],[],Tryz.f101,[.c (.int .i64)],[.c (.bool)],[(34,F34.S)]⟩
theorem ZBp:Zy0.S.Ok Tryz.prog 101:=Zy0.ok Tryz.func101 (by kernel_rfl) ⟨ZtA,trivial⟩
noncomputable def ZBw (a:Int):Option (Bool):=Zy0.S.g [.i a]
theorem Zub (a:Int):ZBw a =
 ((g34 a).bind fun b=>
 some ((!b))):=by kernel_rfl
noncomputable def ZaB:Fn:=⟨19,[4],[(2,[(0,.c (.slice 1)),(1,.clo 101 []),(7,.c (.int .i64)),(8,.c (.int .i64))])],[],0,[],[],Tryz.f169,[.c (.slice 1),.clo 101 []],[.c (.int .i64)],[(101,Zy0.S)]⟩
theorem Zow:ZaB.S.Ok Tryz.prog 169:=ZaB.ok Tryz.func169 (by kernel_rfl) ⟨ZBp,trivial⟩
noncomputable def Zfy (a:LL):Option (Int):=ZaB.S.g [.l a]
noncomputable def KJ (k:Nat) (a:LL) (b c:Int):Option (Int):=ZaB.lp [0] 0 r0 k [.l a,.i b,.i c]
theorem Zav (k:Nat) (b:LL) (c a:Int):KJ (k+1) b c a =
 (if (cop .lss a c) then
 Zm b a [.int .i64] fun (d:Int)=>
 (ZBw d).bind fun e=>
 if e then
 some (a)
 else
 KJ k b c (iop .add .i64 a 1)
 else
 some ((-1))):=by kernel_rfl
theorem Zig (a:LL):Zfy a =
 (KJ Zr a (List.length a:Int) 0):=by kernel_rfl
noncomputable def Zcn:Fn:=⟨9,[4],[],[],0,[],[],Tryz.f100,[.c (.slice 1),.clo 101 []],[.c (.bool)],[(169,ZaB.S)]⟩
theorem ZnL:Zcn.S.Ok Tryz.prog 100:=Zcn.ok Tryz.func100 (by kernel_rfl) ⟨Zow,trivial⟩
noncomputable def Zcc (a:LL):Option (Bool):=Zcn.S.g [.l a]
theorem Zik (a:LL):Zcc a =
 ((Zfy a).bind fun b=>
 some ((cop .geq b 0))):=by kernel_rfl
noncomputable def Zzf:Fn:=⟨17,[5],[],[2],0,[],[],Tryz.f103,[.c (.int .i64),.c (.int .i64),.box hs0],[.c (.bool)],[]⟩
theorem ZBq:Zzf.S.Ok Tryz.prog 103:=Zzf.ok Tryz.func103 (by kernel_rfl) trivial
noncomputable def ZAV (a c d e f h j k m n o p q:Int) (r:Bool) (s t u v w x y z A C D E G H J K L M N O:Int) (P:LL) (Q R T U V W:Int) (X:Bool) (Y Z aa ab:LL) (ac ad:Int) (ae af ag ah ai aj ak al:LL) (am an:Int) (ao ap aq ar aZ au av aw:LL) (ax:Bool) (ay:Int) (az a0 a1 a2 a3 a4 a5 a6:LL):Option (Qt3):=Zzf.S.g [.i a,.i c,.i d,.i e,.i f,.i h,.i j,.i k,.i m,.i n,.i o,.i p,.i q,.b r,.i s,.i t,.i u,.i v,.i w,.i x,.i y,.i z,.i A,.i C,.i D,.i E,.i G,.i H,.i J,.i K,.i L,.i M,.i N,.i O,.l P,.i Q,.i R,.i T,.i U,.i V,.i W,.b X,.l Y,.l Z,.l aa,.l ab,.i ac,.i ad,.l ae,.l af,.l ag,.l ah,.l ai,.l aj,.l ak,.l al,.i am,.i an,.l ao,.l ap,.l aq,.l ar,.l aZ,.l au,.l av,.l aw,.b ax,.i ay,.l az,.l a0,.l a1,.l a2,.l a3,.l a4,.l a5,.l a6]
theorem Zr0 (b c d e f g h i j k l m n:Int) (o:Bool) (p q r s t u v w x y z A C D E G H J K L:Int) (M:LL) (N O P Q R T:Int) (U:Bool) (V W a X:LL) (Y Z:Int) (aa ab ac ad ae af ag ah:LL) (ai aj:Int) (ak al am an ao ap aq ar:LL) (aZ:Bool) (au:Int) (av aw ax ay az a0 a1 a2:LL):ZAV b c d e f g h i j k l m n o p q r s t u v w x y z A C D E G H J K L M N O P Q R T U V W a X Y Z aa ab ac ad ae af ag ah ai aj ak al am an ao ap aq ar aZ au av aw ax ay az a0 a1 a2 =
 (Zm a b [.int .i64] fun (a3:Int)=>
 Zm a c [.int .i64] fun (a4:Int)=>
 some ((cop .lss a3 a4),d,e,f,g,h,i,j,k,l,m,n,o,p,q,r,s,t,u,v,w,x,y,z,A,C,D,E,G,H,J,K,L,M,N,O,P,Q,R,T,U,V,W,a,X,Y,Z,aa,ab,ac,ad,ae,af,ag,ah,ai,aj,ak,al,am,an,ao,ap,aq,ar,aZ,au,av,aw,ax,ay,az,a0,a1,a2)):=by kernel_rfl
noncomputable def ZaD:Fn:=⟨17,[4],[(2,[(0,.c (.int .i64)),(1,.clo 103 [17]),(5,.c (.int .i64)),(17,.gbox hs0)])],[],1,[],[],Tryz.f102,[.c (.int .i64),.clo 103 [17],.dead,.dead,.dead,.dead,.dead,.dead,.dead,.dead,.dead,.dead,.dead,.dead,.dead,.dead,.dead,.gbox hs0],[.c (.bool)],[(103,Zzf.S)]⟩
theorem Znq:ZaD.S.Ok Tryz.prog 102:=ZaD.ok Tryz.func102 (by kernel_rfl) ⟨ZBq,trivial⟩
noncomputable def Zcr (a c d e f h j k m n o p:Int) (q:Bool) (r s t u v w x y z A C D E G H J K L M N:Int) (O:LL) (P Q R T U V:Int) (W:Bool) (X Y Z aa:LL) (ab ac:Int) (ad ae af ag ah ai aj ak:LL) (al am:Int) (an ao ap aq ar aZ au av:LL) (aw:Bool) (ax:Int) (ay az a0 a1 a2 a3 a4 a5:LL):Option (Qt3):=ZaD.S.g [.i a,.i c,.i d,.i e,.i f,.i h,.i j,.i k,.i m,.i n,.i o,.i p,.b q,.i r,.i s,.i t,.i u,.i v,.i w,.i x,.i y,.i z,.i A,.i C,.i D,.i E,.i G,.i H,.i J,.i K,.i L,.i M,.i N,.l O,.i P,.i Q,.i R,.i T,.i U,.i V,.b W,.l X,.l Y,.l Z,.l aa,.i ab,.i ac,.l ad,.l ae,.l af,.l ag,.l ah,.l ai,.l aj,.l ak,.i al,.i am,.l an,.l ao,.l ap,.l aq,.l ar,.l aZ,.l au,.l av,.b aw,.i ax,.l ay,.l az,.l a0,.l a1,.l a2,.l a3,.l a4,.l a5]
noncomputable def WD (k:Nat) (a c d e f g h j m n o p q:Int) (r:Bool) (s t u v w x y z A C D E G H J K L M N O:Int) (P:LL) (Q R T U V W:Int) (X:Bool) (Y Z aa ab:LL) (ac ad:Int) (ae af ag ah ai aj ak al:LL) (am an:Int) (ao ap aq ar aZ au av aw:LL) (ax:Bool) (ay:Int) (az a0 a1 a2 a3 a4 a5 a6:LL):Option (Qt3):=ZaD.lp [0] 0 r0 k [.i a,.i c,.i d,.i e,.i f,.i g,.i h,.i j,.i m,.i n,.i o,.i p,.i q,.b r,.i s,.i t,.i u,.i v,.i w,.i x,.i y,.i z,.i A,.i C,.i D,.i E,.i G,.i H,.i J,.i K,.i L,.i M,.i N,.i O,.l P,.i Q,.i R,.i T,.i U,.i V,.i W,.b X,.l Y,.l Z,.l aa,.l ab,.i ac,.i ad,.l ae,.l af,.l ag,.l ah,.l ai,.l aj,.l ak,.l al,.i am,.i an,.l ao,.l ap,.l aq,.l ar,.l aZ,.l au,.l av,.l aw,.b ax,.i ay,.l az,.l a0,.l a1,.l a2,.l a3,.l a4,.l a5,.l a6]
theorem ZaS (k:Nat) (c b d e f g h i j l m n o:Int) (p:Bool) (q r s t u v w x y z A C D E G H J K L M:Int) (N:LL) (O P Q R T U:Int) (V:Bool) (W X Y Z:LL) (aa ab:Int) (ac ad ae af ag ah ai aj:LL) (ak al:Int) (am an ao ap aq ar aZ au:LL) (av:Bool) (aw:Int) (ax ay az a0 a1 a2 a3 a4:LL):WD (k+1) c b d e f g h i j l m n o p q r s t u v w x y z A C D E G H J K L M N O P Q R T U V W X Y Z aa ab ac ad ae af ag ah ai aj ak al am an ao ap aq ar aZ au av aw ax ay az a0 a1 a2 a3 a4 =
 (if (cop .lss b c) then
 (ZAV (iop .sub .i64 b 1) b d e f g h i j l m n o p q r s t u v w x y z A C D E G H J K L M N O P Q R T U V W X Y Z aa ab ac ad ae af ag ah ai aj ak al am an ao ap aq ar aZ au av aw ax ay az a0 a1 a2 a3 a4).bind fun a=>
 if (!a.1) then
 some (false,a.2.1,a.2.2.1,a.2.2.2.1,a.2.2.2.2.1,a.2.2.2.2.2.1,a.2.2.2.2.2.2.1,a.2.2.2.2.2.2.2.1,a.2.2.2.2.2.2.2.2.1,a.2.2.2.2.2.2.2.2.2.1,a.2.2.2.2.2.2.2.2.2.2.1,a.2.2.2.2.2.2.2.2.2.2.2.1,(d4 (d8 a)).1,(d4 (d8 a)).2.1,(d2 (d4 (d8 a))).1,(d2 (d4 (d8 a))).2.1,(d16 a).1,(d16 a).2.1,(d2 (d16 a)).1,(d2 (d16 a)).2.1,(d4 (d16 a)).1,(d4 (d16 a)).2.1,(d2 (d4 (d16 a))).1,(d2 (d4 (d16 a))).2.1,(d8 (d16 a)).1,(d8 (d16 a)).2.1,(d2 (d8 (d16 a))).1,(d2 (d8 (d16 a))).2.1,(d4 (d8 (d16 a))).1,(d4 (d8 (d16 a))).2.1,(d2 (d4 (d8 (d16 a)))).1,(d2 (d4 (d8 (d16 a)))).2.1,(d16 (d16 a)).1,(d16 (d16 a)).2.1,(d2 (d16 (d16 a))).1,(d2 (d16 (d16 a))).2.1,(d4 (d16 (d16 a))).1,(d4 (d16 (d16 a))).2.1,(d2 (d4 (d16 (d16 a)))).1,(d2 (d4 (d16 (d16 a)))).2.1,(d8 (d16 (d16 a))).1,(d8 (d16 (d16 a))).2.1,(d2 (d8 (d16 (d16 a)))).1,(d2 (d8 (d16 (d16 a)))).2.1,(d4 (d8 (d16 (d16 a)))).1,(d4 (d8 (d16 (d16 a)))).2.1,(d2 (d4 (d8 (d16 (d16 a))))).1,(d2 (d4 (d8 (d16 (d16 a))))).2.1,(d16 (d16 (d16 a))).1,(d16 (d16 (d16 a))).2.1,(d2 (d16 (d16 (d16 a)))).1,(d2 (d16 (d16 (d16 a)))).2.1,(d4 (d16 (d16 (d16 a)))).1,(d4 (d16 (d16 (d16 a)))).2.1,(d2 (d4 (d16 (d16 (d16 a))))).1,(d2 (d4 (d16 (d16 (d16 a))))).2.1,(d8 (d16 (d16 (d16 a)))).1,(d8 (d16 (d16 (d16 a)))).2.1,(d2 (d8 (d16 (d16 (d16 a))))).1,(d2 (d8 (d16 (d16 (d16 a))))).2.1,(d4 (d8 (d16 (d16 (d16 a))))).1,(d4 (d8 (d16 (d16 (d16 a))))).2.1,(d2 (d4 (d8 (d16 (d16 (d16 a)))))).1,(d2 (d4 (d8 (d16 (d16 (d16 a)))))).2.1,(d16 (d16 (d16 (d16 a)))).1,(d16 (d16 (d16 (d16 a)))).2.1,(d2 (d16 (d16 (d16 (d16 a))))).1,(d2 (d16 (d16 (d16 (d16 a))))).2.1,(d4 (d16 (d16 (d16 (d16 a))))).1,(d4 (d16 (d16 (d16 (d16 a))))).2.1,(d2 (d4 (d16 (d16 (d16 (d16 a)))))).1,(d2 (d4 (d16 (d16 (d16 (d16 a)))))).2.1,(d8 (d16 (d16 (d16 (d16 a))))).1,(d8 (d16 (d16 (d16 (d16 a))))).2.1,(d2 (d8 (d16 (d16 (d16 (d16 a)))))))
 else
 WD k c (iop .add .i64 b 1) a.2.1 a.2.2.1 a.2.2.2.1 a.2.2.2.2.1 a.2.2.2.2.2.1 a.2.2.2.2.2.2.1 a.2.2.2.2.2.2.2.1 a.2.2.2.2.2.2.2.2.1 a.2.2.2.2.2.2.2.2.2.1 a.2.2.2.2.2.2.2.2.2.2.1 a.2.2.2.2.2.2.2.2.2.2.2.1 (d4 (d8 a)).1 (d4 (d8 a)).2.1 (d2 (d4 (d8 a))).1 (d2 (d4 (d8 a))).2.1 (d16 a).1 (d16 a).2.1 (d2 (d16 a)).1 (d2 (d16 a)).2.1 (d4 (d16 a)).1 (d4 (d16 a)).2.1 (d2 (d4 (d16 a))).1 (d2 (d4 (d16 a))).2.1 (d8 (d16 a)).1 (d8 (d16 a)).2.1 (d2 (d8 (d16 a))).1 (d2 (d8 (d16 a))).2.1 (d4 (d8 (d16 a))).1 (d4 (d8 (d16 a))).2.1 (d2 (d4 (d8 (d16 a)))).1 (d2 (d4 (d8 (d16 a)))).2.1 (d16 (d16 a)).1 (d16 (d16 a)).2.1 (d2 (d16 (d16 a))).1 (d2 (d16 (d16 a))).2.1 (d4 (d16 (d16 a))).1 (d4 (d16 (d16 a))).2.1 (d2 (d4 (d16 (d16 a)))).1 (d2 (d4 (d16 (d16 a)))).2.1 (d8 (d16 (d16 a))).1 (d8 (d16 (d16 a))).2.1 (d2 (d8 (d16 (d16 a)))).1 (d2 (d8 (d16 (d16 a)))).2.1 (d4 (d8 (d16 (d16 a)))).1 (d4 (d8 (d16 (d16 a)))).2.1 (d2 (d4 (d8 (d16 (d16 a))))).1 (d2 (d4 (d8 (d16 (d16 a))))).2.1 (d16 (d16 (d16 a))).1 (d16 (d16 (d16 a))).2.1 (d2 (d16 (d16 (d16 a)))).1 (d2 (d16 (d16 (d16 a)))).2.1 (d4 (d16 (d16 (d16 a)))).1 (d4 (d16 (d16 (d16 a)))).2.1 (d2 (d4 (d16 (d16 (d16 a))))).1 (d2 (d4 (d16 (d16 (d16 a))))).2.1 (d8 (d16 (d16 (d16 a)))).1 (d8 (d16 (d16 (d16 a)))).2.1 (d2 (d8 (d16 (d16 (d16 a))))).1 (d2 (d8 (d16 (d16 (d16 a))))).2.1 (d4 (d8 (d16 (d16 (d16 a))))).1 (d4 (d8 (d16 (d16 (d16 a))))).2.1 (d2 (d4 (d8 (d16 (d16 (d16 a)))))).1 (d2 (d4 (d8 (d16 (d16 (d16 a)))))).2.1 (d16 (d16 (d16 (d16 a)))).1 (d16 (d16 (d16 (d16 a)))).2.1 (d2 (d16 (d16 (d16 (d16 a))))).1 (d2 (d16 (d16 (d16 (d16 a))))).2.1 (d4 (d16 (d16 (d16 (d16 a))))).1 (d4 (d16 (d16 (d16 (d16 a))))).2.1 (d2 (d4 (d16 (d16 (d16 (d16 a)))))).1 (d2 (d4 (d16 (d16 (d16 (d16 a)))))).2.1 (d8 (d16 (d16 (d16 (d16 a))))).1 (d8 (d16 (d16 (d16 (d16 a))))).2.1 (d2 (d8 (d16 (d16 (d16 (d16 a))))))
 else
 some (true,d,e,f,g,h,i,j,l,m,n,o,p,q,r,s,t,u,v,w,x,y,z,A,C,D,E,G,H,J,K,L,M,N,O,P,Q,R,T,U,V,W,X,Y,Z,aa,ab,ac,ad,ae,af,ag,ah,ai,aj,ak,al,am,an,ao,ap,aq,ar,aZ,au,av,aw,ax,ay,az,a0,a1,a2,a3,a4)):=by kernel_rfl
theorem ZiB (a b c d e f g h i j k l:Int) (m:Bool) (n o p q r s t u v w x y z A C D E G H J:Int) (K:LL) (L M N O P Q:Int) (R:Bool) (T U V W:LL) (X Y:Int) (Z aa ab ac ad ae af ag:LL) (ah ai:Int) (aj ak al am an ao ap aq:LL) (ar:Bool) (aZ:Int) (au av aw ax ay az a0 a1:LL):Zcr a b c d e f g h i j k l m n o p q r s t u v w x y z A C D E G H J K L M N O P Q R T U V W X Y Z aa ab ac ad ae af ag ah ai aj ak al am an ao ap aq ar aZ au av aw ax ay az a0 a1 =
 (WD Zr a 1 b c d e f g h i j k l m n o p q r s t u v w x y z A C D E G H J K L M N O P Q R T U V W X Y Z aa ab ac ad ae af ag ah ai aj ak al am an ao ap aq ar aZ au av aw ax ay az a0 a1):=by kernel_rfl
noncomputable def Zyq:Fn:=⟨13,[2],[],[],0,[],[],Tryz.f108,[.agg [.int .i64,.int .i64]],[.c (.bool)],[(89,F89.S),(34,F34.S)]⟩
theorem ZAP:Zyq.S.Ok Tryz.prog 108:=Zyq.ok Tryz.func108 (by kernel_rfl) ⟨Zyf,⟨ZtA,trivial⟩⟩
noncomputable def ZB0 (a b:Int):Option (Bool):=Zyq.S.g [.i a,.i b]
theorem Zr5 (a b:Int):ZB0 a b =
 ((g89 a).bind fun c=>
 if (!c) then
 some (true)
 else
 (g34 b).bind fun d=>
 some ((!d))):=by kernel_rfl
noncomputable def ZaI:Fn:=⟨19,[4],[(2,[(0,.c (.slice 2)),(1,.clo 108 []),(7,.c (.int .i64)),(8,.c (.int .i64))])],[],0,[],[],Tryz.f178,[.c (.slice 2),.clo 108 []],[.c (.int .i64)],[(108,Zyq.S)]⟩
theorem Znp:ZaI.S.Ok Tryz.prog 178:=ZaI.ok Tryz.func178 (by kernel_rfl) ⟨ZAP,trivial⟩
noncomputable def Zfr (a:LL):Option (Int):=ZaI.S.g [.l a]
noncomputable def KO (k:Nat) (a:LL) (b c:Int):Option (Int):=ZaI.lp [0] 0 r0 k [.l a,.i b,.i c]
theorem Zbc (k:Nat) (b:LL) (c a:Int):KO (k+1) b c a =
 (if (cop .lss a c) then
 Zm b a [.int .i64,.int .i64] fun (d:Int×Int)=>
 (ZB0 d.1 d.2).bind fun e=>
 if e then
 some (a)
 else
 KO k b c (iop .add .i64 a 1)
 else
 some ((-1))):=by kernel_rfl
theorem Zi6 (a:LL):Zfr a =
 (KO Zr a (List.length a:Int) 0):=by kernel_rfl
noncomputable def Zcq:Fn:=⟨9,[4],[],[],0,[],[],Tryz.f107,[.c (.slice 2),.clo 108 []],[.c (.bool)],[(178,ZaI.S)]⟩
theorem ZmI:Zcq.S.Ok Tryz.prog 107:=Zcq.ok Tryz.func107 (by kernel_rfl) ⟨Znp,trivial⟩
noncomputable def Zcs (a:LL):Option (Bool):=Zcq.S.g [.l a]
theorem Zjg (a:LL):Zcs a =
 ((Zfr a).bind fun b=>
 some ((cop .geq b 0))):=by kernel_rfl
noncomputable def F35:Fn:=⟨114,[4],[],[],0,[],[],Tryz.f35,[.agg hs0,.c (.int .i64)],[.c (.bool)],[(89,F89.S),(90,F90.S),(91,F91.S),(92,F92.S),(93,Zle.S),(96,F96.S),(97,ZjM.S),(33,F33.S),(100,Zcn.S),(102,ZaD.S),(104,ZyB.S),(105,ZuB.S),(106,ZvY.S),(107,Zcq.S)]⟩
theorem ZEU:F35.S.Ok Tryz.prog 35:=F35.ok Tryz.func35 (by kernel_rfl) ⟨Zyf,⟨ZC9,⟨Zys,⟨ZDz,⟨ZrM,⟨ZDi,⟨ZrC,⟨Zzv,⟨ZnL,⟨Znq,⟨ZCl,⟨Zvh,⟨ZxL,⟨ZmI,trivial⟩⟩⟩⟩⟩⟩⟩⟩⟩⟩⟩⟩⟩⟩
noncomputable def g35 (a c d e f h j k m n o:Int) (p:Bool) (q r s t u v w x y z A C D E G H J K L M:Int) (N:LL) (O P Q R T U:Int) (V:Bool) (W X Y Z:LL) (aa ab:Int) (ac ad ae af ag ah ai aj:LL) (ak al:Int) (am an ao ap aq ar aZ au:LL) (av:Bool) (aw:Int) (ax ay az a0 a1 a2 a3 a4:LL) (a5:Int):Option (Bool):=F35.S.g [.i a,.i c,.i d,.i e,.i f,.i h,.i j,.i k,.i m,.i n,.i o,.b p,.i q,.i r,.i s,.i t,.i u,.i v,.i w,.i x,.i y,.i z,.i A,.i C,.i D,.i E,.i G,.i H,.i J,.i K,.i L,.i M,.l N,.i O,.i P,.i Q,.i R,.i T,.i U,.b V,.l W,.l X,.l Y,.l Z,.i aa,.i ab,.l ac,.l ad,.l ae,.l af,.l ag,.l ah,.l ai,.l aj,.i ak,.i al,.l am,.l an,.l ao,.l ap,.l aq,.l ar,.l aZ,.l au,.b av,.i aw,.l ax,.l ay,.l az,.l a0,.l a1,.l a2,.l a3,.l a4,.i a5]
theorem KX (g x1 x2 x3 h i j k l m n:Int) (a2:Bool) (o p q r s t u v w x y z A C D E G H J K:Int) (L:LL) (M N O P Q R:Int) (T:Bool) (d c e f:LL) (U V:Int) (W X Y Z aa ab ac ad:LL) (ae af:Int) (ag ah ai aj ak al am an:LL) (ao:Bool) (ap:Int) (aq ar aZ au av aw ax ay:LL) (b:Int):g35 g x1 x2 x3 h i j k l m n a2 o p q r s t u v w x y z A C D E G H J K L M N O P Q R T d c e f U V W X Y Z aa ab ac ad ae af ag ah ai aj ak al am an ao ap aq ar aZ au av aw ax ay b =
 (if (cop .eql b 0) then
 (g89 i).bind fun a=>
 some (a)
 else
 if (cop .eql b 1) then
 (g90 o p q r s t u v w x y z A C D E G H J K L M N O P Q R T).bind fun a=>
 some (a)
 else
 if (cop .eql b 2) then
 (g91 k l m).bind fun a=>
 some (a)
 else
 if (cop .eql b 3) then
 (g92 n).bind fun a=>
 some (a)
 else
 if (cop .eql b 5) then
 if (cop .gtr (List.length c:Int) 8) then
 some (false)
 else
 if (cop .eql g 4) then
 if (cop .neq (List.length c:Int) 1) then
 some (false)
 else
 (Ze0 c).bind fun a=>
 some ((!a))
 else
 (Ze0 c).bind fun a=>
 some ((!a))
 else
 if (cop .eql b 6) then
 (g96 j).bind fun a=>
 some (a)
 else
 if (cop .eql b 7) then
 if (cop .leq (List.length d:Int) 64) then
 (Zlj d).bind fun a=>
 some ((!a))
 else
 some (false)
 else
 if (cop .eql b 8) then
 (g33 h).bind fun a=>
 some (a)
 else
 if (cop .eql b 9) then
 (Zcc e).bind fun a=>
 if (!a) then
 (Zcr (List.length e:Int) g x1 x2 x3 h i j k l m n a2 o p q r s t u v w x y z A C D E G H J K L M N O P Q R T d c e f U V W X Y Z aa ab ac ad ae af ag ah ai aj ak al am an ao ap aq ar aZ au av aw ax ay).bind fun a3=>
 some (a3.1)
 else
 some (false)
 else
 if (cop .eql b 10) then
 (ZzK ae af ag ah ai aj ak al am an ao ap aq ar aZ au av aw ax ay).bind fun a=>
 some (a)
 else
 if (cop .eql b 11) then
 (g33 U).bind fun a=>
 some (a)
 else
 if (cop .eql b 12) then
 (Zws V W X).bind fun a=>
 some (a)
 else
 if (cop .eql b 13) then
 (Zvv Y Z aa ab ac ad).bind fun a=>
 some (a)
 else
 if (cop .eql b 14) then
 if (cop .leq (List.length f:Int) 16) then
 (Zcs f).bind fun a=>
 some ((!a))
 else
 some (false)
 else
 some (true)):=by kernel_rfl
noncomputable def F36:Fn:=⟨85,[],[],[0],0,[],[],Tryz.f36,[.box hs0,.c (.int .i64)],[],[]⟩
theorem ZEX:F36.S.Ok Tryz.prog 36:=F36.ok Tryz.func36 (by kernel_rfl) trivial
noncomputable def g36 (a c d e f h j k m n o:Int) (p:Bool) (q r s t u v w x y z A C D E G H J K L M:Int) (N:LL) (O P Q R T U:Int) (V:Bool) (W X Y Z:LL) (aa ab:Int) (ac ad ae af ag ah ai aj:LL) (ak al:Int) (am an ao ap aq ar aZ au:LL) (av:Bool) (aw:Int) (ax ay az a0 a1 a2 a3 a4:LL) (a5:Int):Option (Qt5):=F36.S.g [.i a,.i c,.i d,.i e,.i f,.i h,.i j,.i k,.i m,.i n,.i o,.b p,.i q,.i r,.i s,.i t,.i u,.i v,.i w,.i x,.i y,.i z,.i A,.i C,.i D,.i E,.i G,.i H,.i J,.i K,.i L,.i M,.l N,.i O,.i P,.i Q,.i R,.i T,.i U,.b V,.l W,.l X,.l Y,.l Z,.i aa,.i ab,.l ac,.l ad,.l ae,.l af,.l ag,.l ah,.l ai,.l aj,.i ak,.i al,.l am,.l an,.l ao,.l ap,.l aq,.l ar,.l aZ,.l au,.b av,.i aw,.l ax,.l ay,.l az,.l a0,.l a1,.l a2,.l a3,.l a4,.i a5]
theorem K1 (a b c d e f g h i j k:Int) (l:Bool) (m n o p q r s t u v w x y z A C D E G H:Int) (J:LL) (K L M N O P:Int) (Q:Bool) (R T U V:LL) (W X:Int) (Y Z aa ab ac ad ae af:LL) (ag ah:Int) (ai aj ak al am an ao ap:LL) (aq:Bool) (ar:Int) (aZ au av aw ax ay az a0:LL) (a1:Int):g36 a b c d e f g h i j k l m n o p q r s t u v w x y z A C D E G H J K L M N O P Q R T U V W X Y Z aa ab ac ad ae af ag ah ai aj ak al am an ao ap aq ar aZ au av aw ax ay az a0 a1 =
 (if (cop .eql a1 0) then
 some (a,b,c,d,e,0,g,h,i,j,k,l,m,n,o,p,q,r,s,t,u,v,w,x,y,z,A,C,D,E,G,H,J,K,L,M,N,O,P,Q,R,T,U,V,W,X,Y,Z,aa,ab,ac,ad,ae,af,ag,ah,ai,aj,ak,al,am,an,ao,ap,aq,ar,aZ,au,av,aw,ax,ay,az,a0)
 else
 if (cop .eql a1 1) then
 some (a,b,c,d,e,f,g,h,i,j,k,l,0,0,0,0,0,0,0,0,0,0,0,0,0,0,0,0,0,0,0,0,E0,0,0,0,0,0,0,false,R,T,U,V,W,X,Y,Z,aa,ab,ac,ad,ae,af,ag,ah,ai,aj,ak,al,am,an,ao,ap,aq,ar,aZ,au,av,aw,ax,ay,az,a0)
 else
 if (cop .eql a1 2) then
 some (a,b,c,d,e,f,g,0,0,0,k,l,m,n,o,p,q,r,s,t,u,v,w,x,y,z,A,C,D,E,G,H,J,K,L,M,N,O,P,Q,R,T,U,V,W,X,Y,Z,aa,ab,ac,ad,ae,af,ag,ah,ai,aj,ak,al,am,an,ao,ap,aq,ar,aZ,au,av,aw,ax,ay,az,a0)
 else
 if (cop .eql a1 3) then
 some (a,b,c,d,e,f,g,h,i,j,0,l,m,n,o,p,q,r,s,t,u,v,w,x,y,z,A,C,D,E,G,H,J,K,L,M,N,O,P,Q,R,T,U,V,W,X,Y,Z,aa,ab,ac,ad,ae,af,ag,ah,ai,aj,ak,al,am,an,ao,ap,aq,ar,aZ,au,av,aw,ax,ay,az,a0)
 else
 if (cop .eql a1 4) then
 some (a,b,c,d,e,f,g,h,i,j,k,false,m,n,o,p,q,r,s,t,u,v,w,x,y,z,A,C,D,E,G,H,J,K,L,M,N,O,P,Q,R,T,U,V,W,X,Y,Z,aa,ab,ac,ad,ae,af,ag,ah,ai,aj,ak,al,am,an,ao,ap,aq,ar,aZ,au,av,aw,ax,ay,az,a0)
 else
 if (cop .eql a1 5) then
 some (a,b,c,d,e,f,g,h,i,j,k,l,m,n,o,p,q,r,s,t,u,v,w,x,y,z,A,C,D,E,G,H,J,K,L,M,N,O,P,Q,R,E0,U,V,W,X,Y,Z,aa,ab,ac,ad,ae,af,ag,ah,ai,aj,ak,al,am,an,ao,ap,aq,ar,aZ,au,av,aw,ax,ay,az,a0)
 else
 if (cop .eql a1 6) then
 some (a,b,c,d,e,f,0,h,i,j,k,l,m,n,o,p,q,r,s,t,u,v,w,x,y,z,A,C,D,E,G,H,J,K,L,M,N,O,P,Q,R,T,U,V,W,X,Y,Z,aa,ab,ac,ad,ae,af,ag,ah,ai,aj,ak,al,am,an,ao,ap,aq,ar,aZ,au,av,aw,ax,ay,az,a0)
 else
 if (cop .eql a1 7) then
 some (a,b,c,d,e,f,g,h,i,j,k,l,m,n,o,p,q,r,s,t,u,v,w,x,y,z,A,C,D,E,G,H,J,K,L,M,N,O,P,Q,E0,T,U,V,W,X,Y,Z,aa,ab,ac,ad,ae,af,ag,ah,ai,aj,ak,al,am,an,ao,ap,aq,ar,aZ,au,av,aw,ax,ay,az,a0)
 else
 if (cop .eql a1 8) then
 some (a,b,c,d,0,f,g,h,i,j,k,l,m,n,o,p,q,r,s,t,u,v,w,x,y,z,A,C,D,E,G,H,J,K,L,M,N,O,P,Q,R,T,U,V,W,X,Y,Z,aa,ab,ac,ad,ae,af,ag,ah,ai,aj,ak,al,am,an,ao,ap,aq,ar,aZ,au,av,aw,ax,ay,az,a0)
 else
 if (cop .eql a1 9) then
 some (a,b,c,d,e,f,g,h,i,j,k,l,m,n,o,p,q,r,s,t,u,v,w,x,y,z,A,C,D,E,G,H,J,K,L,M,N,O,P,Q,R,T,E0,V,W,X,Y,Z,aa,ab,ac,ad,ae,af,ag,ah,ai,aj,ak,al,am,an,ao,ap,aq,ar,aZ,au,av,aw,ax,ay,az,a0)
 else
 if (cop .eql a1 10) then
 some (a,b,c,d,e,f,g,h,i,j,k,l,m,n,o,p,q,r,s,t,u,v,w,x,y,z,A,C,D,E,G,H,J,K,L,M,N,O,P,Q,R,T,U,V,W,X,Y,Z,aa,ab,ac,ad,ae,af,0,0,E0,E0,E0,E0,E0,E0,E0,E0,false,0,E0,E0,E0,E0,E0,E0,E0,E0)
 else
 if (cop .eql a1 11) then
 some (a,b,c,d,e,f,g,h,i,j,k,l,m,n,o,p,q,r,s,t,u,v,w,x,y,z,A,C,D,E,G,H,J,K,L,M,N,O,P,Q,R,T,U,V,0,X,Y,Z,aa,ab,ac,ad,ae,af,ag,ah,ai,aj,ak,al,am,an,ao,ap,aq,ar,aZ,au,av,aw,ax,ay,az,a0)
 else
 if (cop .eql a1 12) then
 some (a,b,c,d,e,f,g,h,i,j,k,l,m,n,o,p,q,r,s,t,u,v,w,x,y,z,A,C,D,E,G,H,J,K,L,M,N,O,P,Q,R,T,U,V,W,0,E0,E0,aa,ab,ac,ad,ae,af,ag,ah,ai,aj,ak,al,am,an,ao,ap,aq,ar,aZ,au,av,aw,ax,ay,az,a0)
 else
 if (cop .eql a1 13) then
 some (a,b,c,d,e,f,g,h,i,j,k,l,m,n,o,p,q,r,s,t,u,v,w,x,y,z,A,C,D,E,G,H,J,K,L,M,N,O,P,Q,R,T,U,V,W,X,Y,Z,E0,E0,E0,E0,E0,E0,ag,ah,ai,aj,ak,al,am,an,ao,ap,aq,ar,aZ,au,av,aw,ax,ay,az,a0)
 else
 if (cop .eql a1 14) then
 some (a,b,c,d,e,f,g,h,i,j,k,l,m,n,o,p,q,r,s,t,u,v,w,x,y,z,A,C,D,E,G,H,J,K,L,M,N,O,P,Q,R,T,U,E0,W,X,Y,Z,aa,ab,ac,ad,ae,af,ag,ah,ai,aj,ak,al,am,an,ao,ap,aq,ar,aZ,au,av,aw,ax,ay,az,a0)
 else
 some (a,b,c,d,e,f,g,h,i,j,k,l,m,n,o,p,q,r,s,t,u,v,w,x,y,z,A,C,D,E,G,H,J,K,L,M,N,O,P,Q,R,T,U,V,W,X,Y,Z,aa,ab,ac,ad,ae,af,ag,ah,ai,aj,ak,al,am,an,ao,ap,aq,ar,aZ,au,av,aw,ax,ay,az,a0)):=by kernel_rfl
noncomputable def ZyG:Fn:=⟨29,[2],[],[],0,[],[],Tryz.f109,[.agg hs6],[.c (.bool)],[(164,ZuK.S)]⟩
theorem ZAF:ZyG.S.Ok Tryz.prog 109:=ZyG.ok Tryz.func109 (by kernel_rfl) ⟨Zso,trivial⟩
noncomputable def ZAk (a c d e f h j k m n o p q r s t u v w x:Int) (y:LL) (z A C D E G:Int) (H:Bool):Option (Bool):=ZyG.S.g [.i a,.i c,.i d,.i e,.i f,.i h,.i j,.i k,.i m,.i n,.i o,.i p,.i q,.i r,.i s,.i t,.i u,.i v,.i w,.i x,.l y,.i z,.i A,.i C,.i D,.i E,.i G,.b H]
theorem ZsO (a b c d e f g h i j k l m n o p q r s t:Int) (u:LL) (v w x y z A:Int) (C:Bool):ZAk a b c d e f g h i j k l m n o p q r s t u v w x y z A C =
 (if ((cop .eql a 0)&&((cop .eql b 0)&&((cop .eql c 0)&&true))) then
 if ((cop .eql d 0)&&((cop .eql e 0)&&((cop .eql f 0)&&((cop .eql g 0)&&((cop .eql h 0)&&((cop .eql i 0)&&((cop .eql j 0)&&((cop .eql k 0)&&((cop .eql l 0)&&((cop .eql m 0)&&((cop .eql n 0)&&((cop .eql o 0)&&true)))))))))))) then
 if (cop .eql p 0) then
 if (cop .eql q 0) then
 (Zte r s t u v w x y z A C 0 0 0 E0 0 0 0 0 0 0 false).bind fun D=>
 some (D)
 else
 some (false)
 else
 some (false)
 else
 some (false)
 else
 some (false)):=by kernel_rfl
noncomputable def Zyb:Fn:=⟨18,[2],[],[],0,[],[],Tryz.f110,[.agg [.int .i64,.slice 1,.slice 1]],[.c (.bool)],[]⟩
theorem Zvp:Zyb.S.Ok Tryz.prog 110:=Zyb.ok Tryz.func110 (by kernel_rfl) trivial
noncomputable def ZuO (a:Int) (b c:LL):Option (Bool):=Zyb.S.g [.i a,.l b,.l c]
theorem Zt9 (a:Int) (b c:LL):ZuO a b c =
 (if (cop .eql a 0) then
 if (cop .eql (List.length b:Int) 0) then
 some ((cop .eql (List.length c:Int) 0))
 else
 some (false)
 else
 some (false)):=by kernel_rfl
noncomputable def Zxl:Fn:=⟨37,[2],[],[],0,[],[],Tryz.f111,[.agg hs30],[.c (.bool)],[]⟩
theorem ZwI:Zxl.S.Ok Tryz.prog 111:=Zxl.ok Tryz.func111 (by kernel_rfl) trivial
noncomputable def Zwi (a b c d e f:LL):Option (Bool):=Zxl.S.g [.l a,.l b,.l c,.l d,.l e,.l f]
theorem Zty (a b c d e f:LL):Zwi a b c d e f =
 (if (cop .eql (List.length a:Int) 0) then
 if (cop .eql (List.length b:Int) 0) then
 if (cop .eql (List.length c:Int) 0) then
 if (cop .eql (List.length d:Int) 0) then
 if (cop .eql (List.length e:Int) 0) then
 some ((cop .eql (List.length f:Int) 0))
 else
 some (false)
 else
 some (false)
 else
 some (false)
 else
 some (false)
 else
 some (false)):=by kernel_rfl
noncomputable def ZyW:Fn:=⟨31,[2],[],[],0,[],[],Tryz.f112,[.agg hs7],[.c (.bool)],[(110,Zyb.S),(111,Zxl.S)]⟩
theorem ZzS:ZyW.S.Ok Tryz.prog 112:=ZyW.ok Tryz.func112 (by kernel_rfl) ⟨Zvp,⟨ZwI,trivial⟩⟩
noncomputable def ZBd (a c:Int) (d e f h j k m n:LL) (o:Bool) (p:Int) (q r s t u v w x:LL):Option (Bool):=ZyW.S.g [.i a,.i c,.l d,.l e,.l f,.l h,.l j,.l k,.l m,.l n,.b o,.i p,.l q,.l r,.l s,.l t,.l u,.l v,.l w,.l x]
theorem Zue (a b:Int) (c d e f g h i j:LL) (k:Bool) (l:Int) (m n o p q r s t:LL):ZBd a b c d e f g h i j k l m n o p q r s t =
 (if (cop .eql a 0) then
 (ZuO b c d).bind fun u=>
 if u then
 (Zwi e f g h i j).bind fun v=>
 if v then
 if (!k) then
 (ZuO l m n).bind fun w=>
 if w then
 (Zwi o p q r s t).bind fun x=>
 some (x)
 else
 some (false)
 else
 some (false)
 else
 some (false)
 else
 some (false)
 else
 some (false)):=by kernel_rfl
noncomputable def F37:Fn:=⟨81,[2],[],[],0,[],[],Tryz.f37,[.agg hs0],[.c (.bool)],[(109,ZyG.S),(110,Zyb.S),(111,Zxl.S),(112,ZyW.S)]⟩
theorem ZEB:F37.S.Ok Tryz.prog 37:=F37.ok Tryz.func37 (by kernel_rfl) ⟨ZAF,⟨Zvp,⟨ZwI,⟨ZzS,trivial⟩⟩⟩⟩
noncomputable def g37 (a c d e f h j k m n o:Int) (p:Bool) (q r s t u v w x y z A C D E G H J K L M:Int) (N:LL) (O P Q R T U:Int) (V:Bool) (W X Y Z:LL) (aa ab:Int) (ac ad ae af ag ah ai aj:LL) (ak al:Int) (am an ao ap aq ar aZ au:LL) (av:Bool) (aw:Int) (ax ay az a0 a1 a2 a3 a4:LL):Option (Bool):=F37.S.g [.i a,.i c,.i d,.i e,.i f,.i h,.i j,.i k,.i m,.i n,.i o,.b p,.i q,.i r,.i s,.i t,.i u,.i v,.i w,.i x,.i y,.i z,.i A,.i C,.i D,.i E,.i G,.i H,.i J,.i K,.i L,.i M,.l N,.i O,.i P,.i Q,.i R,.i T,.i U,.b V,.l W,.l X,.l Y,.l Z,.i aa,.i ab,.l ac,.l ad,.l ae,.l af,.l ag,.l ah,.l ai,.l aj,.i ak,.i al,.l am,.l an,.l ao,.l ap,.l aq,.l ar,.l aZ,.l au,.b av,.i aw,.l ax,.l ay,.l az,.l a0,.l a1,.l a2,.l a3,.l a4]
theorem Zv1 (x0 x1 x2 x3 a b c d e f g:Int) (h:Bool) (i j k l m n o p q r s t u v w x y z A C:Int) (D:LL) (E G H J K L:Int) (M:Bool) (N O P Q:LL) (R T:Int) (U V W X Y Z aa ab:LL) (ac ad:Int) (ae af ag ah ai aj ak al:LL) (am:Bool) (an:Int) (ao ap aq ar aZ au av aw:LL):g37 x0 x1 x2 x3 a b c d e f g h i j k l m n o p q r s t u v w x y z A C D E G H J K L M N O P Q R T U V W X Y Z aa ab ac ad ae af ag ah ai aj ak al am an ao ap aq ar aZ au av aw =
 (if (cop .eql a 0) then
 if (cop .eql b 0) then
 if (cop .eql c 0) then
 if ((cop .eql d 0)&&((cop .eql e 0)&&((cop .eql f 0)&&true))) then
 if (cop .eql g 0) then
 if (!h) then
 (ZAk i j k l m n o p q r s t u v w x y z A C D E G H J K L M).bind fun a1=>
 if a1 then
 if (cop .eql (List.length N:Int) 0) then
 if (cop .eql (List.length O:Int) 0) then
 if (cop .eql (List.length P:Int) 0) then
 if (cop .eql (List.length Q:Int) 0) then
 if (cop .eql R 0) then
 (ZuO T U V).bind fun a2=>
 if a2 then
 (Zwi W X Y Z aa ab).bind fun a3=>
 if a3 then
 (ZBd ac ad ae af ag ah ai aj ak al am an ao ap aq ar aZ au av aw).bind fun a4=>
 some (a4)
 else
 some (false)
 else
 some (false)
 else
 some (false)
 else
 some (false)
 else
 some (false)
 else
 some (false)
 else
 some (false)
 else
 some (false)
 else
 some (false)
 else
 some (false)
 else
 some (false)
 else
 some (false)
 else
 some (false)
 else
 some (false)):=by kernel_rfl
noncomputable def F12:Fn:=⟨50,[2],[(6,[(1,.box hs0),(5,.box hs0),(35,.c (.slice 1)),(36,.c (.int .i64)),(37,.c (.int .i64))])],[],0,[],[],Tryz.f12,[.agg hs0],[.c (.bool)],[(32,F32.S),(33,F33.S),(34,F34.S),(35,F35.S),(36,F36.S),(37,F37.S)]⟩
theorem ZA6:F12.S.Ok Tryz.prog 12:=F12.ok Tryz.func12 (by kernel_rfl) ⟨ZCj,⟨Zzv,⟨ZtA,⟨ZEU,⟨ZEX,⟨ZEB,trivial⟩⟩⟩⟩⟩⟩
noncomputable def g12 (a c d e f h j k m n o:Int) (p:Bool) (q r s t u v w x y z A C D E G H J K L M:Int) (N:LL) (O P Q R T U:Int) (V:Bool) (W X Y Z:LL) (aa ab:Int) (ac ad ae af ag ah ai aj:LL) (ak al:Int) (am an ao ap aq ar aZ au:LL) (av:Bool) (aw:Int) (ax ay az a0 a1 a2 a3 a4:LL):Option (Bool):=F12.S.g [.i a,.i c,.i d,.i e,.i f,.i h,.i j,.i k,.i m,.i n,.i o,.b p,.i q,.i r,.i s,.i t,.i u,.i v,.i w,.i x,.i y,.i z,.i A,.i C,.i D,.i E,.i G,.i H,.i J,.i K,.i L,.i M,.l N,.i O,.i P,.i Q,.i R,.i T,.i U,.b V,.l W,.l X,.l Y,.l Z,.i aa,.i ab,.l ac,.l ad,.l ae,.l af,.l ag,.l ah,.l ai,.l aj,.i ak,.i al,.l am,.l an,.l ao,.l ap,.l aq,.l ar,.l aZ,.l au,.b av,.i aw,.l ax,.l ay,.l az,.l a0,.l a1,.l a2,.l a3,.l a4]
noncomputable def ZpS (k:Nat) (a c d e f g h j m n o:Int) (p:Bool) (q r s t u v w x y z A C D E G H J K L M:Int) (N:LL) (O P Q R T U:Int) (V:Bool) (W X Y Z:LL) (aa ab:Int) (ac ad ae af ag ah ai aj:LL) (ak al:Int) (am an ao ap aq ar aZ au:LL) (av:Bool) (aw:Int) (ax ay az a0 a1 a2 a3 a4:LL) (a5 a6 a7 a8 a9 ba bb bc bd be bf:Int) (bg:Bool) (bh bi bj bk bl bm bn bo bp bq br bs bt bu bv bw bx bz b0 b1:Int) (b2:LL) (b3 b4 b5 b6 b7 b8:Int) (b9:Bool) (ca cb cc cd:LL) (ce cf:Int) (cg ch ci cj ck cl cm cn:LL) (co cp:Int) (cq cr cs ct cu cv cw cx:LL) (cy:Bool) (cz:Int) (c0 c1 c2 c3 c4 c5 c6 c7 c8:LL) (c9 da:Int):Option (Bool):=F12.lp [0,1,0,1,0,1,0,1,0] 0 r0 k [.i a,.i c,.i d,.i e,.i f,.i g,.i h,.i j,.i m,.i n,.i o,.b p,.i q,.i r,.i s,.i t,.i u,.i v,.i w,.i x,.i y,.i z,.i A,.i C,.i D,.i E,.i G,.i H,.i J,.i K,.i L,.i M,.l N,.i O,.i P,.i Q,.i R,.i T,.i U,.b V,.l W,.l X,.l Y,.l Z,.i aa,.i ab,.l ac,.l ad,.l ae,.l af,.l ag,.l ah,.l ai,.l aj,.i ak,.i al,.l am,.l an,.l ao,.l ap,.l aq,.l ar,.l aZ,.l au,.b av,.i aw,.l ax,.l ay,.l az,.l a0,.l a1,.l a2,.l a3,.l a4,.i a5,.i a6,.i a7,.i a8,.i a9,.i ba,.i bb,.i bc,.i bd,.i be,.i bf,.b bg,.i bh,.i bi,.i bj,.i bk,.i bl,.i bm,.i bn,.i bo,.i bp,.i bq,.i br,.i bs,.i bt,.i bu,.i bv,.i bw,.i bx,.i bz,.i b0,.i b1,.l b2,.i b3,.i b4,.i b5,.i b6,.i b7,.i b8,.b b9,.l ca,.l cb,.l cc,.l cd,.i ce,.i cf,.l cg,.l ch,.l ci,.l cj,.l ck,.l cl,.l cm,.l cn,.i co,.i cp,.l cq,.l cr,.l cs,.l ct,.l cu,.l cv,.l cw,.l cx,.b cy,.i cz,.l c0,.l c1,.l c2,.l c3,.l c4,.l c5,.l c6,.l c7,.l c8,.i c9,.i da]
theorem ZjU (k:Nat) (d e f g h i j l m n o:Int) (p:Bool) (q r s t u v w x y z A C D E G H J K L M:Int) (N:LL) (O P Q R T U:Int) (V:Bool) (W X Y Z:LL) (aa ab:Int) (ac ad ae af ag ah ai aj:LL) (ak al:Int) (am an ao ap aq ar aZ au:LL) (av:Bool) (aw:Int) (ax ay az a0 a1 a2 a3 a4:LL) (a5 a6 a7 a8 a9 ba bb bc bd be bf:Int) (bg:Bool) (bh bi bj bk bl bm bn bo bp bq br bs bt bu bv bw bx bz b0 b1:Int) (b2:LL) (b3 b4 b5 b6 b7 b8:Int) (b9:Bool) (ca cb cc cd:LL) (ce cf:Int) (cg ch ci cj ck cl cm cn:LL) (co cp:Int) (cq cr cs ct cu cv cw cx:LL) (cy:Bool) (cz:Int) (c0 c1 c2 c3 c4 c5 c6 c7 c8:LL) (c9 b:Int):ZpS (k+1) d e f g h i j l m n o p q r s t u v w x y z A C D E G H J K L M N O P Q R T U V W X Y Z aa ab ac ad ae af ag ah ai aj ak al am an ao ap aq ar aZ au av aw ax ay az a0 a1 a2 a3 a4 a5 a6 a7 a8 a9 ba bb bc bd be bf bg bh bi bj bk bl bm bn bo bp bq br bs bt bu bv bw bx bz b0 b1 b2 b3 b4 b5 b6 b7 b8 b9 ca cb cc cd ce cf cg ch ci cj ck cl cm cn co cp cq cr cs ct cu cv cw cx cy cz c0 c1 c2 c3 c4 c5 c6 c7 c8 c9 b =
 (if (cop .lss b c9) then
 Zm c8 b [.int .i64] fun (c:Int)=>
 (g35 d e f g h i j l m n o p q r s t u v w x y z A C D E G H J K L M N O P Q R T U V W X Y Z aa ab ac ad ae af ag ah ai aj ak al am an ao ap aq ar aZ au av aw ax ay az a0 a1 a2 a3 a4 c).bind fun da=>
 if (!da) then
 some (false)
 else
 (g36 a5 a6 a7 a8 a9 ba bb bc bd be bf bg bh bi bj bk bl bm bn bo bp bq br bs bt bu bv bw bx bz b0 b1 b2 b3 b4 b5 b6 b7 b8 b9 ca cb cc cd ce cf cg ch ci cj ck cl cm cn co cp cq cr cs ct cu cv cw cx cy cz c0 c1 c2 c3 c4 c5 c6 c7 c).bind fun a=>
 ZpS k d e f g h i j l m n o p q r s t u v w x y z A C D E G H J K L M N O P Q R T U V W X Y Z aa ab ac ad ae af ag ah ai aj ak al am an ao ap aq ar aZ au av aw ax ay az a0 a1 a2 a3 a4 a.1 a.2.1 a.2.2.1 a.2.2.2.1 a.2.2.2.2.1 a.2.2.2.2.2.1 a.2.2.2.2.2.2.1 a.2.2.2.2.2.2.2.1 a.2.2.2.2.2.2.2.2.1 a.2.2.2.2.2.2.2.2.2.1 a.2.2.2.2.2.2.2.2.2.2.1 a.2.2.2.2.2.2.2.2.2.2.2.1 (d4 (d8 a)).1 (d4 (d8 a)).2.1 (d2 (d4 (d8 a))).1 (d2 (d4 (d8 a))).2.1 (d16 a).1 (d16 a).2.1 (d2 (d16 a)).1 (d2 (d16 a)).2.1 (d4 (d16 a)).1 (d4 (d16 a)).2.1 (d2 (d4 (d16 a))).1 (d2 (d4 (d16 a))).2.1 (d8 (d16 a)).1 (d8 (d16 a)).2.1 (d2 (d8 (d16 a))).1 (d2 (d8 (d16 a))).2.1 (d4 (d8 (d16 a))).1 (d4 (d8 (d16 a))).2.1 (d2 (d4 (d8 (d16 a)))).1 (d2 (d4 (d8 (d16 a)))).2.1 (d16 (d16 a)).1 (d16 (d16 a)).2.1 (d2 (d16 (d16 a))).1 (d2 (d16 (d16 a))).2.1 (d4 (d16 (d16 a))).1 (d4 (d16 (d16 a))).2.1 (d2 (d4 (d16 (d16 a)))).1 (d2 (d4 (d16 (d16 a)))).2.1 (d8 (d16 (d16 a))).1 (d8 (d16 (d16 a))).2.1 (d2 (d8 (d16 (d16 a)))).1 (d2 (d8 (d16 (d16 a)))).2.1 (d4 (d8 (d16 (d16 a)))).1 (d4 (d8 (d16 (d16 a)))).2.1 (d2 (d4 (d8 (d16 (d16 a))))).1 (d2 (d4 (d8 (d16 (d16 a))))).2.1 (d16 (d16 (d16 a))).1 (d16 (d16 (d16 a))).2.1 (d2 (d16 (d16 (d16 a)))).1 (d2 (d16 (d16 (d16 a)))).2.1 (d4 (d16 (d16 (d16 a)))).1 (d4 (d16 (d16 (d16 a)))).2.1 (d2 (d4 (d16 (d16 (d16 a))))).1 (d2 (d4 (d16 (d16 (d16 a))))).2.1 (d8 (d16 (d16 (d16 a)))).1 (d8 (d16 (d16 (d16 a)))).2.1 (d2 (d8 (d16 (d16 (d16 a))))).1 (d2 (d8 (d16 (d16 (d16 a))))).2.1 (d4 (d8 (d16 (d16 (d16 a))))).1 (d4 (d8 (d16 (d16 (d16 a))))).2.1 (d2 (d4 (d8 (d16 (d16 (d16 a)))))).1 (d2 (d4 (d8 (d16 (d16 (d16 a)))))).2.1 (d16 (d16 (d16 (d16 a)))).1 (d16 (d16 (d16 (d16 a)))).2.1 (d2 (d16 (d16 (d16 (d16 a))))).1 (d2 (d16 (d16 (d16 (d16 a))))).2.1 (d4 (d16 (d16 (d16 (d16 a))))).1 (d4 (d16 (d16 (d16 (d16 a))))).2.1 (d2 (d4 (d16 (d16 (d16 (d16 a)))))).1 (d2 (d4 (d16 (d16 (d16 (d16 a)))))).2.1 (d8 (d16 (d16 (d16 (d16 a))))).1 (d8 (d16 (d16 (d16 (d16 a))))).2 c8 c9 (iop .add .i64 b 1)
 else
 (g37 a5 a6 a7 a8 a9 ba bb bc bd be bf bg bh bi bj bk bl bm bn bo bp bq br bs bt bu bv bw bx bz b0 b1 b2 b3 b4 b5 b6 b7 b8 b9 ca cb cc cd ce cf cg ch ci cj ck cl cm cn co cp cq cr cs ct cu cv cw cx cy cz c0 c1 c2 c3 c4 c5 c6 c7).bind fun c=>
 some (c)):=by kernel_rfl
theorem ZuZ (a b c d e f g h i j k:Int) (l:Bool) (m n o p q r s t u v w x y z A C D E G H:Int) (J:LL) (K L M N O P:Int) (Q:Bool) (R T U V:LL) (W X:Int) (Y Z aa ab ac ad ae af:LL) (ag ah:Int) (ai aj ak al am an ao ap:LL) (aq:Bool) (ar:Int) (aZ au av aw ax ay az a0:LL):g12 a b c d e f g h i j k l m n o p q r s t u v w x y z A C D E G H J K L M N O P Q R T U V W X Y Z aa ab ac ad ae af ag ah ai aj ak al am an ao ap aq ar aZ au av aw ax ay az a0 =
 ((g32 a).bind fun a1=>
 if (!a1.2) then
 some (false)
 else
 (g33 b).bind fun a2=>
 if (!a2) then
 some (false)
 else
 (g34 c).bind fun a3=>
 if (!a3) then
 some (false)
 else
 (g34 d).bind fun a4=>
 if (!a4) then
 some (false)
 else
 ZpS Zr a b c d e f g h i j k l m n o p q r s t u v w x y z A C D E G H J K L M N O P Q R T U V W X Y Z aa ab ac ad ae af ag ah ai aj ak al am an ao ap aq ar aZ au av aw ax ay az a0 a b c d e f g h i j k l m n o p q r s t u v w x y z A C D E G H J K L M N O P Q R T U V W X Y Z aa ab ac ad ae af ag ah ai aj ak al am an ao ap aq ar aZ au av aw ax ay az a0 a1.1 (List.length a1.1:Int) 0):=by kernel_rfl
noncomputable def F50:Fn:=⟨9,[2],[],[],0,[],[],Tryz.f50,[.c (.int .i64)],[.c (.bool)],[]⟩
theorem ZC7:F50.S.Ok Tryz.prog 50:=F50.ok Tryz.func50 (by kernel_rfl) trivial
noncomputable def g50 (a:Int):Option (Bool):=F50.S.g [.i a]
theorem Zxw (a:Int):g50 a =
 (if (cop .geq a 0) then
 some ((cop .leq a 1073741824))
 else
 some (false)):=by kernel_rfl
noncomputable def F51:Fn:=⟨9,[2],[],[],0,[],[],Tryz.f51,[.c (.int .i64)],[.c (.bool)],[]⟩
theorem Zut:F51.S.Ok Tryz.prog 51:=F51.ok Tryz.func51 (by kernel_rfl) trivial
noncomputable def g51 (a:Int):Option (Bool):=F51.S.g [.i a]
theorem ZvN (a:Int):g51 a =
 (if (cop .geq a 0) then
 some ((cop .lss a 32))
 else
 some (false)):=by kernel_rfl
noncomputable def Zrv:Fn:=⟨31,[2],[],[],0,[],[],Tryz.f128,[.agg [.int .i64,.int .i64,.int .i64]],[.c (.bool)],[]⟩
theorem ZnE:Zrv.S.Ok Tryz.prog 128:=Zrv.ok Tryz.func128 (by kernel_rfl) trivial
noncomputable def Zq2 (a b c:Int):Option (Bool):=Zrv.S.g [.i a,.i b,.i c]
theorem Ztz (a b c:Int):Zq2 a b c =
 (if (cop .geq a 0) then
 if (cop .lss a 32) then
 if (cop .geq b 1) then
 if (cop .leq b 1073741824) then
 if (cop .geq c 0) then
 some ((cop .lss c 8))
 else
 some (false)
 else
 some (false)
 else
 some (false)
 else
 some (false)
 else
 some (false)):=by kernel_rfl
noncomputable def F53:Fn:=⟨10,[2],[],[],0,[],[],Tryz.f53,[.agg [.int .i64,.int .i64,.int .i64]],[.c (.bool)],[(128,Zrv.S)]⟩
theorem Zzq:F53.S.Ok Tryz.prog 53:=F53.ok Tryz.func53 (by kernel_rfl) ⟨ZnE,trivial⟩
noncomputable def g53 (a b c:Int):Option (Bool):=F53.S.g [.i a,.i b,.i c]
theorem Zvw (b c a:Int):g53 b c a =
 ((Zq2 b c a).bind fun d=>
 if d then
 some ((cop .eql a 0))
 else
 some (false)):=by kernel_rfl
noncomputable def F62:Fn:=⟨9,[2],[],[],0,[],[],Tryz.f62,[.c (.int .i64)],[.c (.bool)],[]⟩
theorem Zyo:F62.S.Ok Tryz.prog 62:=F62.ok Tryz.func62 (by kernel_rfl) trivial
noncomputable def g62 (a:Int):Option (Bool):=F62.S.g [.i a]
theorem Zvo (a:Int):g62 a =
 (if (cop .geq a 0) then
 some ((cop .lss a 16))
 else
 some (false)):=by kernel_rfl
noncomputable def F69:Fn:=⟨26,[4],[(4,[(0,.c (.slice 3)),(1,.c (.slice 3)),(5,.c (.int .i64))])],[],0,[],[],Tryz.f69,[.c (.slice 3),.c (.slice 3)],[.c (.bool)],[]⟩
theorem Zz6:F69.S.Ok Tryz.prog 69:=F69.ok Tryz.func69 (by kernel_rfl) trivial
noncomputable def g69 (a b:LL):Option (Bool):=F69.S.g [.l a,.l b]
noncomputable def Zpq (k:Nat) (a b:LL) (c:Int):Option (Bool):=F69.lp [1,0] 0 r0 k [.l a,.l b,.i c]
theorem ZjW (k:Nat) (b c:LL) (a:Int):Zpq (k+1) b c a =
 (if (cop .lss a (List.length b:Int)) then
 Zm b a [.int .i64,.int .i64,.int .i64] fun (d:Int×Int×Int)=>
 Zm c a [.int .i64,.int .i64,.int .i64] fun (e:Int×Int×Int)=>
 if (!((cop .eql d.1 e.1)&&((cop .eql d.2.1 e.2.1)&&((cop .eql d.2.2 e.2.2)&&true)))) then
 some (false)
 else
 Zpq k b c (iop .add .i64 a 1)
 else
 some (true)):=by kernel_rfl
theorem Zv3 (a b:LL):g69 a b =
 (if (cop .neq (List.length a:Int) (List.length b:Int)) then
 some (false)
 else
 Zpq Zr a b 0):=by kernel_rfl
noncomputable def ZpB:Fn:=⟨24,[4],[],[],0,[],[],Tryz.f127,[.agg hs16,.agg hs16],[.c (.bool)],[(69,F69.S)]⟩
theorem Zmj:ZpB.S.Ok Tryz.prog 127:=ZpB.ok Tryz.func127 (by kernel_rfl) ⟨Zz6,trivial⟩
noncomputable def Zop (a c d:Int) (e:LL) (f h j k m n:Int) (o:Bool) (p q r:Int) (s:LL) (t u v w x y:Int) (z:Bool):Option (Bool):=ZpB.S.g [.i a,.i c,.i d,.l e,.i f,.i h,.i j,.i k,.i m,.i n,.b o,.i p,.i q,.i r,.l s,.i t,.i u,.i v,.i w,.i x,.i y,.b z]
theorem Ztv (a b c:Int) (d:LL) (e f g h i j:Int) (k:Bool) (l m n:Int) (o:LL) (p q r s t u:Int) (v:Bool):Zop a b c d e f g h i j k l m n o p q r s t u v =
 (if ((cop .eql a l)&&((cop .eql b m)&&((cop .eql c n)&&true))) then
 if ((cop .eql e p)&&((cop .eql f q)&&((cop .eql g r)&&((cop .eql h s)&&((cop .eql i t)&&((cop .eql j u)&&((k == v)&&true))))))) then
 (g69 d o).bind fun w=>
 some (w)
 else
 some (false)
 else
 some (false)):=by kernel_rfl
noncomputable def ZyI:Fn:=⟨12,[2],[],[],0,[],[],Tryz.f195,[.c (.int .i64)],[.c (.int .i64)],[]⟩
theorem ZAN:ZyI.S.Ok Tryz.prog 195:=ZyI.ok Tryz.func195 (by kernel_rfl) trivial
noncomputable def ZBG (a:Int):Option (Int):=ZyI.S.g [.i a]
theorem Zr8 (a:Int):ZBG a =
 (if (cop .eql a 3) then
 some (12)
 else
 if (cop .eql a 4) then
 some (6)
 else
 if (cop .eql a 5) then
 some (10)
 else
 if (cop .eql a 6) then
 some (16)
 else
 some (0)):=by kernel_rfl
noncomputable def Zw4:Fn:=⟨35,[4],[],[],0,[],[],Tryz.f162,[.c (.int .i64),.c (.int .i64)],[.c (.bool)],[(195,ZyI.S)]⟩
theorem ZwC:Zw4.S.Ok Tryz.prog 162:=Zw4.ok Tryz.func162 (by kernel_rfl) ⟨ZAN,trivial⟩
noncomputable def Zzo (a b:Int):Option (Bool):=Zw4.S.g [.i a,.i b]
theorem ZrY (a b:Int):Zzo a b =
 (if (cop .eql a 1) then
 if (cop .geq b 6) then
 some ((cop .leq b 40))
 else
 some (false)
 else
 if (cop .eql a 2) then
 if (cop .geq b 12) then
 some ((cop .leq b 40))
 else
 some (false)
 else
 if (cop .geq a 3) then
 if (cop .leq a 6) then
 (ZBG a).bind fun c=>
 some ((cop .eql b c))
 else
 some (false)
 else
 some (false)):=by kernel_rfl
noncomputable def ZxU:Fn:=⟨8,[2],[],[],0,[],[],Tryz.f159,[.agg hs27],[.agg [.int .i64,.int .i64]],[]⟩
theorem Zx7:ZxU.S.Ok Tryz.prog 159:=ZxU.ok Tryz.func159 (by kernel_rfl) trivial
noncomputable def ZmL (a c d e f h:Int) (j:Bool):Option (Int×Int):=ZxU.S.g [.i a,.i c,.i d,.i e,.i f,.i h,.b j]
theorem ZsV (c a b d e f:Int) (g:Bool):ZmL c a b d e f g =
 (some (a,b)):=by kernel_rfl
noncomputable def ZsJ:Fn:=⟨38,[2],[],[],0,[],[],Tryz.f185,[.agg [.int .i64,.int .i64]],[.c (.bool)],[]⟩
theorem ZpJ:ZsJ.S.Ok Tryz.prog 185:=ZsJ.ok Tryz.func185 (by kernel_rfl) trivial
noncomputable def Zrz (a b:Int):Option (Bool):=ZsJ.S.g [.i a,.i b]
theorem ZtL (b a:Int):Zrz b a =
 (if (cop .lss a 6) then
 some (false)
 else
 if (cop .gtr a 40) then
 some (false)
 else
 if (cop .lss b 0) then
 some (false)
 else
 if (cop .geq b 1099511627776) then
 some (false)
 else
 ZE ((0:Int)≤(IntKind.wrap .u64 a))<|
 ZE (((iop .shl .i64 1 (IntKind.wrap .u64 a)):Int)≠0)<|
 if (cop .eql (iop .rem .i64 b (iop .shl .i64 1 (IntKind.wrap .u64 a))) 0) then
 some ((cop .leq (iop .add .i64 b (iop .shl .i64 1 (IntKind.wrap .u64 a))) 1099511627776))
 else
 some (false)):=by kernel_rfl
noncomputable def Zxb:Fn:=⟨23,[4],[],[],0,[],[],Tryz.f163,[.c (.int .i64),.c (.int .i64)],[.c (.bool)],[]⟩
theorem Zya:Zxb.S.Ok Tryz.prog 163:=Zxb.ok Tryz.func163 (by kernel_rfl) trivial
noncomputable def Zzc (a b:Int):Option (Bool):=Zxb.S.g [.i a,.i b]
theorem Zse (b a:Int):Zzc b a =
 (if (cop .geq a 0) then
 if (cop .eql b 32) then
 if (cop .leq a 1) then
 some (true)
 else
 if (cop .eql b 39) then
 some ((cop .leq a 2))
 else
 some (false)
 else
 if (cop .eql b 39) then
 some ((cop .leq a 2))
 else
 some (false)
 else
 some (false)):=by kernel_rfl
noncomputable def Zug:Fn:=⟨64,[2],[],[],0,[],[],Tryz.f130,[.agg hs27],[.c (.bool)],[(162,Zw4.S),(159,ZxU.S),(185,ZsJ.S),(163,Zxb.S)]⟩
theorem ZqX:Zug.S.Ok Tryz.prog 130:=Zug.ok Tryz.func130 (by kernel_rfl) ⟨ZwC,⟨Zx7,⟨ZpJ,⟨Zya,trivial⟩⟩⟩⟩
noncomputable def ZuM (a c d e f h:Int) (j:Bool):Option (Bool):=Zug.S.g [.i a,.i c,.i d,.i e,.i f,.i h,.b j]
theorem ZtX (a g f e c d:Int) (b:Bool):ZuM a g f e c d b =
 ((Zzo a f).bind fun i=>
 if (!i) then
 some (false)
 else
 (ZmL a g f e c d b).bind fun h=>
 (Zrz h.1 h.2).bind fun j=>
 if (!j) then
 some (false)
 else
 if (cop .lss e 0) then
 some (false)
 else
 if (cop .gtr e 7) then
 some (false)
 else
 if (cop .eql a 3) then
 (Zzc c d).bind fun k=>
 if (!k) then
 some (false)
 else
 if (cop .neq a 3) then
 if (cop .neq c 0) then
 some (false)
 else
 if (cop .neq d 0) then
 some (false)
 else
 if (!b) then
 some (true)
 else
 if (cop .eql a 1) then
 some (true)
 else
 some ((cop .eql a 2))
 else
 if (!b) then
 some (true)
 else
 if (cop .eql a 1) then
 some (true)
 else
 some ((cop .eql a 2))
 else
 if (cop .neq a 3) then
 if (cop .neq c 0) then
 some (false)
 else
 if (cop .neq d 0) then
 some (false)
 else
 if (!b) then
 some (true)
 else
 if (cop .eql a 1) then
 some (true)
 else
 some ((cop .eql a 2))
 else
 if (!b) then
 some (true)
 else
 if (cop .eql a 1) then
 some (true)
 else
 some ((cop .eql a 2))):=by kernel_rfl
noncomputable def F78:Fn:=⟨18,[4],[(2,[(0,.c (.slice 3)),(3,.box [.int .i64,.int .i64,.int .i64]),(5,.c (.int .i64))])],[],0,[],[],Tryz.f78,[.c (.slice 3),.agg [.int .i64,.int .i64,.int .i64]],[.c (.bool)],[]⟩
theorem ZCc:F78.S.Ok Tryz.prog 78:=F78.ok Tryz.func78 (by kernel_rfl) trivial
noncomputable def g78 (a:LL) (b c d:Int):Option (Bool):=F78.S.g [.l a,.i b,.i c,.i d]
noncomputable def ZqF (k:Nat) (a:LL) (b c d e:Int):Option (Bool):=F78.lp [0] 0 r0 k [.l a,.i b,.i c,.i d,.i e]
theorem Zkc (k:Nat) (a:LL) (c d e b:Int):ZqF (k+1) a c d e b =
 (if (cop .lss b (List.length a:Int)) then
 Zm a b [.int .i64,.int .i64,.int .i64] fun (f:Int×Int×Int)=>
 if ((cop .eql f.1 c)&&((cop .eql f.2.1 d)&&((cop .eql f.2.2 e)&&true))) then
 some (true)
 else
 ZqF k a c d e (iop .add .i64 b 1)
 else
 some (false)):=by kernel_rfl
theorem ZxW (a:LL) (b c d:Int):g78 a b c d =
 (ZqF Zr a b c d 0):=by kernel_rfl
noncomputable def F61:Fn:=⟨53,[2],[(4,[(1,.box hs16),(3,.c (.int .i64))])],[],0,[],[],Tryz.f61,[.agg hs16],[.c (.bool)],[(128,Zrv.S),(130,Zug.S),(78,F78.S)]⟩
theorem Zuw:F61.S.Ok Tryz.prog 61:=F61.ok Tryz.func61 (by kernel_rfl) ⟨ZnE,⟨ZqX,⟨ZCc,trivial⟩⟩⟩
noncomputable def g61 (a c d:Int) (e:LL) (f h j k m n:Int) (o:Bool):Option (Bool):=F61.S.g [.i a,.i c,.i d,.l e,.i f,.i h,.i j,.i k,.i m,.i n,.b o]
noncomputable def ZpX (k:Nat) (a c d:Int) (e:LL) (f g h j m n:Int) (o:Bool) (p:Int):Option (Bool):=F61.lp [0,1,0,1,1,0,1,0] 0 r0 k [.i a,.i c,.i d,.l e,.i f,.i g,.i h,.i j,.i m,.i n,.b o,.i p]
theorem Zkt (k:Nat) (e f g:Int) (b:LL) (h i j l m n:Int) (o:Bool) (a:Int):ZpX (k+1) e f g b h i j l m n o a =
 (if (cop .lss a (List.length b:Int)) then
 Zm b a [.int .i64,.int .i64,.int .i64] fun (c:Int×Int×Int)=>
 (Zq2 c.1 c.2.1 c.2.2).bind fun p=>
 if (!p) then
 some (false)
 else
 ZE ((0:Int)≤a)<|
 ZE ((a:Int)≤(List.length b:Int))<|
 Zm b a [.int .i64,.int .i64,.int .i64] fun (d:Int×Int×Int)=>
 (g78 (List.take (Int.toNat a) b) d.1 d.2.1 d.2.2).bind fun q=>
 if q then
 some (false)
 else
 ZpX k e f g b h i j l m n o (iop .add .i64 a 1)
 else
 some (true)):=by kernel_rfl
theorem Zvl (a b c:Int) (d:LL) (e f g h i j:Int) (k:Bool):g61 a b c d e f g h i j k =
 ((Zq2 a b c).bind fun l=>
 if (!l) then
 some (false)
 else
 (ZuM e f g h i j k).bind fun m=>
 if (!m) then
 some (false)
 else
 if (cop .gtr (List.length d:Int) 8) then
 some (false)
 else
 (g78 d a b c).bind fun n=>
 if n then
 some (false)
 else
 ZpX Zr a b c d e f g h i j k 0):=by kernel_rfl
noncomputable def F52:Fn:=⟨46,[2],[],[],0,[],[],Tryz.f52,[.agg hs6],[.c (.bool)],[(53,F53.S),(62,F62.S),(127,ZpB.S),(61,F61.S)]⟩
theorem ZDc:F52.S.Ok Tryz.prog 52:=F52.ok Tryz.func52 (by kernel_rfl) ⟨Zzq,⟨Zyo,⟨Zmj,⟨Zuw,trivial⟩⟩⟩⟩
noncomputable def g52 (a c d e f h j k m n o p q r s t u v w x:Int) (y:LL) (z A C D E G:Int) (H:Bool):Option (Bool):=F52.S.g [.i a,.i c,.i d,.i e,.i f,.i h,.i j,.i k,.i m,.i n,.i o,.i p,.i q,.i r,.i s,.i t,.i u,.i v,.i w,.i x,.l y,.i z,.i A,.i C,.i D,.i E,.i G,.b H]
theorem Zu5 (o p q b s t u v w x y z A C D r n c d e:Int) (f:LL) (g h i j k l:Int) (m:Bool):g52 o p q b s t u v w x y z A C D r n c d e f g h i j k l m =
 ((g53 o p q).bind fun E=>
 if (!E) then
 some (false)
 else
 if (cop .lss b 1) then
 some (false)
 else
 if (cop .gtr b 6) then
 some (false)
 else
 (g62 r).bind fun G=>
 if (!G) then
 some (false)
 else
 if (cop .neq n 32) then
 if (cop .neq n 39) then
 some (false)
 else
 if (cop .eql b 1) then
 (Zop c d e f g h i j k l m 0 0 0 E0 0 0 0 0 0 0 false).bind fun a=>
 some (a)
 else
 (g61 c d e f g h i j k l m).bind fun a=>
 some (a)
 else
 if (cop .eql b 1) then
 (Zop c d e f g h i j k l m 0 0 0 E0 0 0 0 0 0 0 false).bind fun a=>
 some (a)
 else
 (g61 c d e f g h i j k l m).bind fun a=>
 some (a)):=by kernel_rfl
noncomputable def F54:Fn:=⟨9,[2],[],[],0,[],[],Tryz.f54,[.c (.int .i64)],[.c (.bool)],[]⟩
theorem ZDu:F54.S.Ok Tryz.prog 54:=F54.ok Tryz.func54 (by kernel_rfl) trivial
noncomputable def g54 (a:Int):Option (Bool):=F54.S.g [.i a]
theorem ZxJ (a:Int):g54 a =
 (if (cop .geq a 0) then
 some ((cop .leq a 99))
 else
 some (false)):=by kernel_rfl
noncomputable def F55:Fn:=⟨29,[4],[(2,[(0,.c (.slice 3)),(1,.c (.bool)),(5,.c (.int .i64))])],[],0,[],[],Tryz.f55,[.c (.slice 3),.c (.bool)],[.c (.bool)],[(128,Zrv.S)]⟩
theorem ZDy:F55.S.Ok Tryz.prog 55:=F55.ok Tryz.func55 (by kernel_rfl) ⟨ZnE,trivial⟩
noncomputable def g55 (a:LL) (c:Bool):Option (Bool):=F55.S.g [.l a,.b c]
noncomputable def Zhz (k:Nat) (a:LL) (c:Bool) (d:Int):Option (Bool):=F55.lp [0] 0 r0 k [.l a,.b c,.i d]
theorem ZkX (k:Nat) (a:LL) (c:Bool) (b:Int):Zhz (k+1) a c b =
 (if (cop .lss b (List.length a:Int)) then
 Zm a b [.int .i64,.int .i64,.int .i64] fun (d:Int×Int×Int)=>
 (Zq2 d.1 d.2.1 d.2.2).bind fun e=>
 if (!e) then
 some (false)
 else
 if c then
 Zm a b [.int .i64,.int .i64,.int .i64] fun (f:Int×Int×Int)=>
 if (cop .neq f.2.2 0) then
 some (false)
 else
 Zhz k a c (iop .add .i64 b 1)
 else
 Zhz k a c (iop .add .i64 b 1)
 else
 some (true)):=by kernel_rfl
theorem Zx3 (a:LL) (b:Bool):g55 a b =
 (Zhz Zr a b 0):=by kernel_rfl
noncomputable def F56:Fn:=⟨32,[2],[(2,[(0,.c (.slice 1)),(3,.c (.int .i64))])],[],0,[],[],Tryz.f56,[.c (.slice 1)],[.c (.bool)],[(51,F51.S)]⟩
theorem ZDT:F56.S.Ok Tryz.prog 56:=F56.ok Tryz.func56 (by kernel_rfl) ⟨Zut,trivial⟩
noncomputable def g56 (a:LL):Option (Bool):=F56.S.g [.l a]
noncomputable def ZhQ (k:Nat) (a:LL) (b:Int):Option (Bool):=F56.lp [0] 0 r0 k [.l a,.i b]
theorem Zkw (k:Nat) (b:LL) (a:Int):ZhQ (k+1) b a =
 (if (cop .lss a (List.length b:Int)) then
 Zm b a [.int .i64] fun (c:Int)=>
 (g51 c).bind fun d=>
 if (!d) then
 some (false)
 else
 if (cop .gtr a 0) then
 Zm b a [.int .i64] fun (e:Int)=>
 Zm b (iop .sub .i64 a 1) [.int .i64] fun (f:Int)=>
 if (cop .leq e f) then
 some (false)
 else
 ZhQ k b (iop .add .i64 a 1)
 else
 ZhQ k b (iop .add .i64 a 1)
 else
 some (true)):=by kernel_rfl
theorem Zvi (a:LL):g56 a =
 (ZhQ Zr a 0):=by kernel_rfl
noncomputable def F79:Fn:=⟨18,[4],[(2,[(0,.c (.slice 1)),(1,.c (.int .i64)),(5,.c (.int .i64))])],[],0,[],[],Tryz.f79,[.c (.slice 1),.c (.int .i64)],[.c (.bool)],[]⟩
theorem ZCP:F79.S.Ok Tryz.prog 79:=F79.ok Tryz.func79 (by kernel_rfl) trivial
noncomputable def g79 (a:LL) (b:Int):Option (Bool):=F79.S.g [.l a,.i b]
noncomputable def Zi7 (k:Nat) (a:LL) (b c:Int):Option (Bool):=F79.lp [0] 0 r0 k [.l a,.i b,.i c]
theorem Zkh (k:Nat) (a:LL) (c b:Int):Zi7 (k+1) a c b =
 (if (cop .lss b (List.length a:Int)) then
 Zm a b [.int .i64] fun (d:Int)=>
 if (cop .eql d c) then
 some (true)
 else
 Zi7 k a c (iop .add .i64 b 1)
 else
 some (false)):=by kernel_rfl
theorem ZwA (a:LL) (b:Int):g79 a b =
 (Zi7 Zr a b 0):=by kernel_rfl
noncomputable def F58:Fn:=⟨61,[2],[(4,[(1,.box [.int .i64,.slice 1,.slice 1]),(3,.c (.int .i64))]),(9,[(1,.box [.int .i64,.slice 1,.slice 1]),(4,.c (.int .i64))])],[],0,[],[],Tryz.f58,[.agg [.int .i64,.slice 1,.slice 1]],[.c (.bool)],[(50,F50.S),(51,F51.S),(79,F79.S)]⟩
theorem ZCR:F58.S.Ok Tryz.prog 58:=F58.ok Tryz.func58 (by kernel_rfl) ⟨ZC7,⟨Zut,⟨ZCP,trivial⟩⟩⟩
noncomputable def g58 (a:Int) (b c:LL):Option (Bool):=F58.S.g [.i a,.l b,.l c]
noncomputable def Zjx (k:Nat) (a:Int) (b c:LL) (d:Int):Option (Bool):=F58.lp [0,1,1,1,0,1,0] 0 r0 k [.i a,.l b,.l c,.i d]
theorem ZkH (k:Nat) (c:Int) (d a:LL) (b:Int):Zjx (k+1) c d a b =
 (if (cop .lss b (List.length a:Int)) then
 Zm a b [.int .i64] fun (e:Int)=>
 (g51 e).bind fun f=>
 if (!f) then
 some (false)
 else
 Zjx k c d a (iop .add .i64 b 1)
 else
 some (true)):=by kernel_rfl
noncomputable def Ziy (k:Nat) (a:Int) (b c:LL) (d:Int):Option (Bool):=F58.lp [0,1,1,1,0] 0 r0 k [.i a,.l b,.l c,.i d]
theorem Zj1 (k:Nat) (c:Int) (a d:LL) (b:Int):Ziy (k+1) c a d b =
 (if (cop .lss b (List.length a:Int)) then
 Zm a b [.int .i64] fun (e:Int)=>
 (g51 e).bind fun f=>
 if (!f) then
 some (false)
 else
 ZE ((0:Int)≤b)<|
 ZE ((b:Int)≤(List.length a:Int))<|
 Zm a b [.int .i64] fun (g:Int)=>
 (g79 (List.take (Int.toNat b) a) g).bind fun h=>
 if h then
 some (false)
 else
 Ziy k c a d (iop .add .i64 b 1)
 else
 Zjx Zr c a d 0):=by kernel_rfl
theorem ZvU (a:Int) (b c:LL):g58 a b c =
 ((g50 a).bind fun d=>
 if (!d) then
 some (false)
 else
 if (cop .gtr (List.length b:Int) 32) then
 some (false)
 else
 if (cop .gtr (List.length c:Int) 16) then
 some (false)
 else
 Ziy Zr a b c 0):=by kernel_rfl
noncomputable def F81:Fn:=⟨8,[2],[],[],0,[],[],Tryz.f81,[.agg hs11],[.c (.bool)],[]⟩
theorem ZzU:F81.S.Ok Tryz.prog 81:=F81.ok Tryz.func81 (by kernel_rfl) trivial
noncomputable def g81 (a c d:Int) (e:LL) (f h j k m n:Int) (o:Bool) (p q r s:Int):Option (Bool):=F81.S.g [.i a,.i c,.i d,.l e,.i f,.i h,.i j,.i k,.i m,.i n,.b o,.i p,.i q,.i r,.i s]
theorem Zoj (a b c:Int) (d:LL) (e f g h i j:Int) (k:Bool) (l m n o:Int):g81 a b c d e f g h i j k l m n o =
 (some (((cop .eql a 0)&&((cop .eql b 0)&&((cop .eql c 0)&&true))))):=by kernel_rfl
noncomputable def Zvu:Fn:=⟨29,[4],[(2,[(0,.c (.slice 15)),(3,.box [.int .i64,.int .i64,.int .i64]),(5,.c (.int .i64))])],[],0,[],[],Tryz.f184,[.c (.slice 15),.agg [.int .i64,.int .i64,.int .i64]],[.c (.int .i64)],[(81,F81.S)]⟩
theorem ZBk:Zvu.S.Ok Tryz.prog 184:=Zvu.ok Tryz.func184 (by kernel_rfl) ⟨ZzU,trivial⟩
noncomputable def Zzl (a:LL) (b c d:Int):Option (Int):=Zvu.S.g [.l a,.i b,.i c,.i d]
noncomputable def ZcS (k:Nat) (a:LL) (b c d e:Int):Option (Int):=Zvu.lp [0] 0 r0 k [.l a,.i b,.i c,.i d,.i e]
theorem Zhk (k:Nat) (c:LL) (d e f b:Int):ZcS (k+1) c d e f b =
 (if (cop .lss b (List.length c:Int)) then
 Zm c b hs11 fun (a:Qt21)=>
 (g81 a.1 a.2.1 a.2.2.1 a.2.2.2.1 a.2.2.2.2.1 a.2.2.2.2.2.1 a.2.2.2.2.2.2.1 a.2.2.2.2.2.2.2.1 a.2.2.2.2.2.2.2.2.1 a.2.2.2.2.2.2.2.2.2.1 a.2.2.2.2.2.2.2.2.2.2.1 a.2.2.2.2.2.2.2.2.2.2.2.1 (d4 (d8 a)).1 (d4 (d8 a)).2.1 (d2 (d4 (d8 a)))).bind fun h=>
 if (!h) then
 Zm c b hs11 fun (g:Qt21)=>
 if ((cop .eql g.1 d)&&((cop .eql g.2.1 e)&&((cop .eql g.2.2.1 f)&&true))) then
 some (b)
 else
 ZcS k c d e f (iop .add .i64 b 1)
 else
 ZcS k c d e f (iop .add .i64 b 1)
 else
 some ((-1))):=by kernel_rfl
theorem Ztf (a:LL) (b c d:Int):Zzl a b c d =
 (ZcS Zr a b c d 0):=by kernel_rfl
noncomputable def Zx2:Fn:=⟨70,[2],[(4,[(0,.c (.slice 15)),(3,.c (.int .i64))])],[],0,[],[],Tryz.f129,[.c (.slice 15)],[.c (.bool)],[(128,Zrv.S),(81,F81.S),(127,ZpB.S),(61,F61.S),(184,Zvu.S)]⟩
theorem ZCA:Zx2.S.Ok Tryz.prog 129:=Zx2.ok Tryz.func129 (by kernel_rfl) ⟨ZnE,⟨ZzU,⟨Zmj,⟨Zuw,⟨ZBk,trivial⟩⟩⟩⟩⟩
noncomputable def ZAl (a:LL):Option (Bool):=Zx2.S.g [.l a]
noncomputable def WR (k:Nat) (a:LL) (b:Int):Option (Bool):=Zx2.lp [1,0] 0 r0 k [.l a,.i b]
theorem Zgk (k:Nat) (b:LL) (c:Int):WR (k+1) b c =
 (if (cop .lss c (List.length b:Int)) then
 Zm b c hs11 fun (a:Qt21)=>
 if (cop .lss a.2.2.2.2.2.2.2.2.2.2.2.1 0) then
 some (false)
 else
 if (cop .gtr a.2.2.2.2.2.2.2.2.2.2.2.1 1073741824) then
 some (false)
 else
 if (!((cop .eql (d4 (d8 a)).1 0)&&((cop .eql (d4 (d8 a)).2.1 0)&&((cop .eql (d2 (d4 (d8 a))) 0)&&true)))) then
 (Zq2 (d4 (d8 a)).1 (d4 (d8 a)).2.1 (d2 (d4 (d8 a)))).bind fun f=>
 if (!f) then
 some (false)
 else
 if (cop .neq (d2 (d4 (d8 a))) 0) then
 some (false)
 else
 (g81 a.1 a.2.1 a.2.2.1 a.2.2.2.1 a.2.2.2.2.1 a.2.2.2.2.2.1 a.2.2.2.2.2.2.1 a.2.2.2.2.2.2.2.1 a.2.2.2.2.2.2.2.2.1 a.2.2.2.2.2.2.2.2.2.1 a.2.2.2.2.2.2.2.2.2.2.1 a.2.2.2.2.2.2.2.2.2.2.2.1 (d4 (d8 a)).1 (d4 (d8 a)).2.1 (d2 (d4 (d8 a)))).bind fun d=>
 if d then
 (Zop a.1 a.2.1 a.2.2.1 a.2.2.2.1 a.2.2.2.2.1 a.2.2.2.2.2.1 a.2.2.2.2.2.2.1 a.2.2.2.2.2.2.2.1 a.2.2.2.2.2.2.2.2.1 a.2.2.2.2.2.2.2.2.2.1 a.2.2.2.2.2.2.2.2.2.2.1 0 0 0 E0 0 0 0 0 0 0 false).bind fun e=>
 if (!e) then
 some (false)
 else
 if (!((cop .eql (d4 (d8 a)).1 0)&&((cop .eql (d4 (d8 a)).2.1 0)&&((cop .eql (d2 (d4 (d8 a))) 0)&&true)))) then
 some (false)
 else
 WR k b (iop .add .i64 c 1)
 else
 (g61 a.1 a.2.1 a.2.2.1 a.2.2.2.1 a.2.2.2.2.1 a.2.2.2.2.2.1 a.2.2.2.2.2.2.1 a.2.2.2.2.2.2.2.1 a.2.2.2.2.2.2.2.2.1 a.2.2.2.2.2.2.2.2.2.1 a.2.2.2.2.2.2.2.2.2.2.1).bind fun e=>
 if (!e) then
 some (false)
 else
 (Zzl b a.1 a.2.1 a.2.2.1).bind fun g=>
 if (cop .neq g c) then
 some (false)
 else
 WR k b (iop .add .i64 c 1)
 else
 (g81 a.1 a.2.1 a.2.2.1 a.2.2.2.1 a.2.2.2.2.1 a.2.2.2.2.2.1 a.2.2.2.2.2.2.1 a.2.2.2.2.2.2.2.1 a.2.2.2.2.2.2.2.2.1 a.2.2.2.2.2.2.2.2.2.1 a.2.2.2.2.2.2.2.2.2.2.1 a.2.2.2.2.2.2.2.2.2.2.2.1 (d4 (d8 a)).1 (d4 (d8 a)).2.1 (d2 (d4 (d8 a)))).bind fun f=>
 if f then
 (Zop a.1 a.2.1 a.2.2.1 a.2.2.2.1 a.2.2.2.2.1 a.2.2.2.2.2.1 a.2.2.2.2.2.2.1 a.2.2.2.2.2.2.2.1 a.2.2.2.2.2.2.2.2.1 a.2.2.2.2.2.2.2.2.2.1 a.2.2.2.2.2.2.2.2.2.2.1 0 0 0 E0 0 0 0 0 0 0 false).bind fun d=>
 if (!d) then
 some (false)
 else
 if (!((cop .eql (d4 (d8 a)).1 0)&&((cop .eql (d4 (d8 a)).2.1 0)&&((cop .eql (d2 (d4 (d8 a))) 0)&&true)))) then
 some (false)
 else
 WR k b (iop .add .i64 c 1)
 else
 (g61 a.1 a.2.1 a.2.2.1 a.2.2.2.1 a.2.2.2.2.1 a.2.2.2.2.2.1 a.2.2.2.2.2.2.1 a.2.2.2.2.2.2.2.1 a.2.2.2.2.2.2.2.2.1 a.2.2.2.2.2.2.2.2.2.1 a.2.2.2.2.2.2.2.2.2.2.1).bind fun d=>
 if (!d) then
 some (false)
 else
 (Zzl b a.1 a.2.1 a.2.2.1).bind fun e=>
 if (cop .neq e c) then
 some (false)
 else
 WR k b (iop .add .i64 c 1)
 else
 some (true)):=by kernel_rfl
theorem Zt4 (a:LL):ZAl a =
 (if (cop .gtr (List.length a:Int) 64) then
 some (false)
 else
 WR Zr a 0):=by kernel_rfl
noncomputable def F82:Fn:=⟨30,[4],[],[],0,[],[],Tryz.f82,[.agg [.int .i64,.int .i64,.int .i64],.agg [.int .i64,.int .i64,.int .i64]],[.c (.bool)],[]⟩
theorem ZBv:F82.S.Ok Tryz.prog 82:=F82.ok Tryz.func82 (by kernel_rfl) trivial
noncomputable def g82 (a b c d e f:Int):Option (Bool):=F82.S.g [.i a,.i b,.i c,.i d,.i e,.i f]
theorem ZwP (a b e c d f:Int):g82 a b e c d f =
 (if (cop .neq a c) then
 some ((cop .lss a c))
 else
 if (cop .neq b d) then
 some ((cop .lss b d))
 else
 some ((cop .lss e f))):=by kernel_rfl
noncomputable def F59:Fn:=⟨186,[2],[(4,[(1,.box hs30),(3,.c (.int .i64))]),(9,[(1,.box hs30),(4,.c (.int .i64))]),(15,[(1,.box hs30),(6,.c (.int .i64))]),(21,[(1,.box hs30),(8,.c (.int .i64))])],[],0,[],[],Tryz.f59,[.agg hs30],[.c (.bool)],[(129,Zx2.S),(55,F55.S),(52,F52.S),(82,F82.S),(62,F62.S),(53,F53.S),(54,F54.S),(51,F51.S),(61,F61.S)]⟩
theorem ZC3:F59.S.Ok Tryz.prog 59:=F59.ok Tryz.func59 (by kernel_rfl) ⟨ZCA,⟨ZDy,⟨ZDc,⟨ZBv,⟨Zyo,⟨Zzq,⟨ZDu,⟨Zut,⟨Zuw,trivial⟩⟩⟩⟩⟩⟩⟩⟩⟩
noncomputable def g59 (a b c d e f:LL):Option (Bool):=F59.S.g [.l a,.l b,.l c,.l d,.l e,.l f]
noncomputable def Zdg (k:Nat) (a b c d e f:LL) (g:Int):Option (Bool):=F59.lp [0,1,0,1,0,1,0,1,0,1,0] 0 r0 k [.l a,.l b,.l c,.l d,.l e,.l f,.i g]
theorem Zlf (k:Nat) (d e f g c h:LL) (b:Int):Zdg (k+1) d e f g c h b =
 (if (cop .lss b (List.length c:Int)) then
 Zm c b hs12 fun (a:Qt25)=>
 (g51 a.1).bind fun j=>
 if (!j) then
 some (false)
 else
 if (cop .lss a.2.1 0) then
 some (false)
 else
 if (cop .geq a.2.1 64) then
 some (false)
 else
 (g61 a.2.2.1 a.2.2.2.1 a.2.2.2.2.1 a.2.2.2.2.2.1 a.2.2.2.2.2.2.1 a.2.2.2.2.2.2.2.1 a.2.2.2.2.2.2.2.2.1 a.2.2.2.2.2.2.2.2.2.1 a.2.2.2.2.2.2.2.2.2.2.1 a.2.2.2.2.2.2.2.2.2.2.2.1 (d4 (d8 a))).bind fun l=>
 if (!l) then
 some (false)
 else
 if (cop .gtr b 0) then
 Zm c (iop .sub .i64 b 1) hs12 fun (i:Qt25)=>
 (g82 i.2.2.1 i.2.2.2.1 i.2.2.2.2.1 a.2.2.1 a.2.2.2.1 a.2.2.2.2.1).bind fun m=>
 if (!m) then
 some (false)
 else
 Zdg k d e f g c h (iop .add .i64 b 1)
 else
 Zdg k d e f g c h (iop .add .i64 b 1)
 else
 some (true)):=by kernel_rfl
noncomputable def Zda (k:Nat) (a b c d e f:LL) (g:Int):Option (Bool):=F59.lp [0,1,0,1,0,1,0,1,0] 0 r0 k [.l a,.l b,.l c,.l d,.l e,.l f,.i g]
theorem Zky (k:Nat) (c d e a f g:LL) (b:Int):Zda (k+1) c d e a f g b =
 (if (cop .lss b (List.length a:Int)) then
 Zm a b [.int .i64,.int .i64] fun (h:Int×Int)=>
 if (cop .lss h.1 1) then
 some (false)
 else
 if (cop .gtr h.1 1073741824) then
 some (false)
 else
 (g54 h.2).bind fun i=>
 if (!i) then
 some (false)
 else
 if (cop .gtr b 0) then
 Zm a (iop .sub .i64 b 1) [.int .i64,.int .i64] fun (j:Int×Int)=>
 if (cop .leq h.1 j.1) then
 some (false)
 else
 Zda k c d e a f g (iop .add .i64 b 1)
 else
 Zda k c d e a f g (iop .add .i64 b 1)
 else
 Zdg Zr c d e a f g 0):=by kernel_rfl
noncomputable def Zc6 (k:Nat) (a b c d e f:LL) (g:Int):Option (Bool):=F59.lp [0,1,0,1,0,1,0] 0 r0 k [.l a,.l b,.l c,.l d,.l e,.l f,.i g]
theorem Zko (k:Nat) (d e a f g h:LL) (b:Int):Zc6 (k+1) d e a f g h b =
 (if (cop .lss b (List.length a:Int)) then
 Zm a b [.int .i64,.int .i64,.int .i64,.int .i64] fun (c:Int×Int×Int×Int)=>
 (g62 c.1).bind fun i=>
 if (!i) then
 some (false)
 else
 (g53 c.2.1 c.2.2.1 c.2.2.2).bind fun j=>
 if (!j) then
 some (false)
 else
 if (cop .gtr b 0) then
 Zm a (iop .sub .i64 b 1) [.int .i64,.int .i64,.int .i64,.int .i64] fun (l:Int×Int×Int×Int)=>
 if (cop .leq c.1 l.1) then
 some (false)
 else
 Zc6 k d e a f g h (iop .add .i64 b 1)
 else
 Zc6 k d e a f g h (iop .add .i64 b 1)
 else
 Zda Zr d e a f g h 0):=by kernel_rfl
noncomputable def Zgb (k:Nat) (a b c d e f:LL) (g:Int):Option (Bool):=F59.lp [0,1,0,1,0] 0 r0 k [.l a,.l b,.l c,.l d,.l e,.l f,.i g]
theorem Zlc (k:Nat) (d b e f g h:LL) (c:Int):Zgb (k+1) d b e f g h c =
 (if (cop .lss c (List.length b:Int)) then
 Zm b c hs6 fun (a:Qt10)=>
 (g52 a.1 a.2.1 a.2.2.1 a.2.2.2.1 a.2.2.2.2.1 a.2.2.2.2.2.1 a.2.2.2.2.2.2.1 a.2.2.2.2.2.2.2.1 a.2.2.2.2.2.2.2.2.1 a.2.2.2.2.2.2.2.2.2.1 a.2.2.2.2.2.2.2.2.2.2.1 a.2.2.2.2.2.2.2.2.2.2.2.1 (d4 (d8 a)).1 (d4 (d8 a)).2.1 (d2 (d4 (d8 a))).1 (d2 (d4 (d8 a))).2.1 (d16 a).1 (d16 a).2.1 (d2 (d16 a)).1 (d2 (d16 a)).2.1 (d4 (d16 a)).1 (d4 (d16 a)).2.1 (d2 (d4 (d16 a))).1 (d2 (d4 (d16 a))).2.1 (d8 (d16 a)).1 (d8 (d16 a)).2.1 (d2 (d8 (d16 a))).1 (d2 (d8 (d16 a))).2).bind fun l=>
 if (!l) then
 some (false)
 else
 if (cop .gtr c 0) then
 Zm b (iop .sub .i64 c 1) hs6 fun (i:Qt10)=>
 Zm b c hs6 fun (j:Qt10)=>
 (g82 i.1 i.2.1 i.2.2.1 j.1 j.2.1 j.2.2.1).bind fun m=>
 if (!m) then
 some (false)
 else
 Zgb k d b e f g h (iop .add .i64 c 1)
 else
 Zgb k d b e f g h (iop .add .i64 c 1)
 else
 Zc6 Zr d b e f g h 0):=by kernel_rfl
theorem Zwk (a c d e f b:LL):g59 a c d e f b =
 ((ZAl a).bind fun g=>
 if (!g) then
 some (false)
 else
 (g55 b true).bind fun h=>
 if (!h) then
 some (false)
 else
 Zgb Zr a c d e f b 0):=by kernel_rfl
noncomputable def F57:Fn:=⟨26,[2],[],[],0,[],[],Tryz.f57,[.agg hs7],[.c (.bool)],[(51,F51.S),(58,F58.S),(59,F59.S)]⟩
theorem ZDG:F57.S.Ok Tryz.prog 57:=F57.ok Tryz.func57 (by kernel_rfl) ⟨Zut,⟨ZCR,⟨ZC3,trivial⟩⟩⟩
noncomputable def g57 (a c:Int) (d e f h j k m n:LL) (o:Bool) (p:Int) (q r s t u v w x:LL):Option (Bool):=F57.S.g [.i a,.i c,.l d,.l e,.l f,.l h,.l j,.l k,.l m,.l n,.b o,.i p,.l q,.l r,.l s,.l t,.l u,.l v,.l w,.l x]
theorem ZxV (a b:Int) (c d e f g h i j:LL) (t:Bool) (k:Int) (l m n o p q r s:LL):g57 a b c d e f g h i j t k l m n o p q r s =
 ((g51 a).bind fun u=>
 if u then
 (g58 b c d).bind fun v=>
 if v then
 (g58 k l m).bind fun w=>
 if w then
 (g59 e f g h i j).bind fun x=>
 if x then
 (g59 n o p q r s).bind fun y=>
 some (y)
 else
 some (false)
 else
 some (false)
 else
 some (false)
 else
 some (false)):=by kernel_rfl
noncomputable def F60:Fn:=⟨29,[2],[(2,[(0,.c (.slice 2)),(3,.c (.int .i64))])],[],0,[],[],Tryz.f60,[.c (.slice 2)],[.c (.bool)],[(62,F62.S),(51,F51.S)]⟩
theorem ZEZ:F60.S.Ok Tryz.prog 60:=F60.ok Tryz.func60 (by kernel_rfl) ⟨Zyo,⟨Zut,trivial⟩⟩
noncomputable def g60 (a:LL):Option (Bool):=F60.S.g [.l a]
noncomputable def ZiD (k:Nat) (a:LL) (b:Int):Option (Bool):=F60.lp [0] 0 r0 k [.l a,.i b]
theorem ZkE (k:Nat) (a:LL) (b:Int):ZiD (k+1) a b =
 (if (cop .lss b (List.length a:Int)) then
 Zm a b [.int .i64,.int .i64] fun (c:Int×Int)=>
 (g62 c.1).bind fun d=>
 if (!d) then
 some (false)
 else
 Zm a b [.int .i64,.int .i64] fun (e:Int×Int)=>
 (g51 e.2).bind fun f=>
 if (!f) then
 some (false)
 else
 ZiD k a (iop .add .i64 b 1)
 else
 some ((cop .leq (List.length a:Int) 16))):=by kernel_rfl
theorem ZvA (a:LL):g60 a =
 (ZiD Zr a 0):=by kernel_rfl
noncomputable def F68:Fn:=⟨38,[4],[],[],0,[],[],Tryz.f68,[.agg hs6,.agg hs6],[.c (.bool)],[(127,ZpB.S)]⟩
theorem ZCW:F68.S.Ok Tryz.prog 68:=F68.ok Tryz.func68 (by kernel_rfl) ⟨Zmj,trivial⟩
noncomputable def g68 (a c d e f h j k m n o p q r s t u v w x:Int) (y:LL) (z A C D E G:Int) (H:Bool) (J K L M N O P Q R T U V W X Y Z aa ab ac ad:Int) (ae:LL) (af ag ah ai aj ak:Int) (al:Bool):Option (Bool):=F68.S.g [.i a,.i c,.i d,.i e,.i f,.i h,.i j,.i k,.i m,.i n,.i o,.i p,.i q,.i r,.i s,.i t,.i u,.i v,.i w,.i x,.l y,.i z,.i A,.i C,.i D,.i E,.i G,.b H,.i J,.i K,.i L,.i M,.i N,.i O,.i P,.i Q,.i R,.i T,.i U,.i V,.i W,.i X,.i Y,.i Z,.i aa,.i ab,.i ac,.i ad,.l ae,.i af,.i ag,.i ah,.i ai,.i aj,.i ak,.b al]
theorem Zwt (a b c d e f g h i j k l m n o p q r s t:Int) (u:LL) (v w x y z A:Int) (C:Bool) (D E G H J K L M N O P Q R T U V W X Y Z:Int) (aa:LL) (ab ac ad ae af ag:Int) (ah:Bool):g68 a b c d e f g h i j k l m n o p q r s t u v w x y z A C D E G H J K L M N O P Q R T U V W X Y Z aa ab ac ad ae af ag ah =
 (if ((cop .eql a D)&&((cop .eql b E)&&((cop .eql c G)&&true))) then
 if ((cop .eql d H)&&((cop .eql e J)&&((cop .eql f K)&&((cop .eql g L)&&((cop .eql h M)&&((cop .eql i N)&&((cop .eql j O)&&((cop .eql k P)&&((cop .eql l Q)&&((cop .eql m R)&&((cop .eql n T)&&((cop .eql o U)&&true)))))))))))) then
 if (cop .eql p V) then
 if (cop .eql q W) then
 (Zop r s t u v w x y z A C X Y Z aa ab ac ad ae af ag ah).bind fun ai=>
 some (ai)
 else
 some (false)
 else
 some (false)
 else
 some (false)
 else
 some (false)):=by kernel_rfl
noncomputable def F70:Fn:=⟨27,[4],[(4,[(0,.c (.slice 11)),(1,.c (.slice 11)),(5,.c (.int .i64))])],[],0,[],[],Tryz.f70,[.c (.slice 11),.c (.slice 11)],[.c (.bool)],[(127,ZpB.S)]⟩
theorem ZE5:F70.S.Ok Tryz.prog 70:=F70.ok Tryz.func70 (by kernel_rfl) ⟨Zmj,trivial⟩
noncomputable def g70 (a b:LL):Option (Bool):=F70.S.g [.l a,.l b]
noncomputable def ZmQ (k:Nat) (a b:LL) (c:Int):Option (Bool):=F70.lp [1,0] 0 r0 k [.l a,.l b,.i c]
theorem ZkM (k:Nat) (d e:LL) (c:Int):ZmQ (k+1) d e c =
 (if (cop .lss c (List.length d:Int)) then
 Zm d c hs16 fun (a:Qt31)=>
 Zm e c hs16 fun (b:Qt31)=>
 (Zop a.1 a.2.1 a.2.2.1 a.2.2.2.1 a.2.2.2.2.1 a.2.2.2.2.2.1 a.2.2.2.2.2.2.1 a.2.2.2.2.2.2.2.1 a.2.2.2.2.2.2.2.2.1 a.2.2.2.2.2.2.2.2.2.1 a.2.2.2.2.2.2.2.2.2.2 b.1 b.2.1 b.2.2.1 b.2.2.2.1 b.2.2.2.2.1 b.2.2.2.2.2.1 b.2.2.2.2.2.2.1 b.2.2.2.2.2.2.2.1 b.2.2.2.2.2.2.2.2.1 b.2.2.2.2.2.2.2.2.2.1 b.2.2.2.2.2.2.2.2.2.2).bind fun f=>
 if (!f) then
 some (false)
 else
 ZmQ k d e (iop .add .i64 c 1)
 else
 some (true)):=by kernel_rfl
theorem ZuP (a b:LL):g70 a b =
 (if (cop .neq (List.length a:Int) (List.length b:Int)) then
 some (false)
 else
 ZmQ Zr a b 0):=by kernel_rfl
noncomputable def F71:Fn:=⟨26,[4],[(4,[(0,.c (.slice 1)),(1,.c (.slice 1)),(5,.c (.int .i64))])],[],0,[],[],Tryz.f71,[.c (.slice 1),.c (.slice 1)],[.c (.bool)],[]⟩
theorem ZCS:F71.S.Ok Tryz.prog 71:=F71.ok Tryz.func71 (by kernel_rfl) trivial
noncomputable def g71 (a b:LL):Option (Bool):=F71.S.g [.l a,.l b]
noncomputable def Znz (k:Nat) (a b:LL) (c:Int):Option (Bool):=F71.lp [1,0] 0 r0 k [.l a,.l b,.i c]
theorem Zj4 (k:Nat) (b c:LL) (a:Int):Znz (k+1) b c a =
 (if (cop .lss a (List.length b:Int)) then
 Zm b a [.int .i64] fun (d:Int)=>
 Zm c a [.int .i64] fun (e:Int)=>
 if (cop .neq d e) then
 some (false)
 else
 Znz k b c (iop .add .i64 a 1)
 else
 some (true)):=by kernel_rfl
theorem ZwT (a b:LL):g71 a b =
 (if (cop .neq (List.length a:Int) (List.length b:Int)) then
 some (false)
 else
 Znz Zr a b 0):=by kernel_rfl
noncomputable def F72:Fn:=⟨26,[4],[(4,[(0,.c (.slice 2)),(1,.c (.slice 2)),(5,.c (.int .i64))])],[],0,[],[],Tryz.f72,[.c (.slice 2),.c (.slice 2)],[.c (.bool)],[]⟩
theorem ZED:F72.S.Ok Tryz.prog 72:=F72.ok Tryz.func72 (by kernel_rfl) trivial
noncomputable def g72 (a b:LL):Option (Bool):=F72.S.g [.l a,.l b]
noncomputable def Znn (k:Nat) (a b:LL) (c:Int):Option (Bool):=F72.lp [1,0] 0 r0 k [.l a,.l b,.i c]
theorem Zkq (k:Nat) (b c:LL) (a:Int):Znn (k+1) b c a =
 (if (cop .lss a (List.length b:Int)) then
 Zm b a [.int .i64,.int .i64] fun (d:Int×Int)=>
 Zm c a [.int .i64,.int .i64] fun (e:Int×Int)=>
 if (!((cop .eql d.1 e.1)&&((cop .eql d.2 e.2)&&true))) then
 some (false)
 else
 Znn k b c (iop .add .i64 a 1)
 else
 some (true)):=by kernel_rfl
theorem Zvg (a b:LL):g72 a b =
 (if (cop .neq (List.length a:Int) (List.length b:Int)) then
 some (false)
 else
 Znn Zr a b 0):=by kernel_rfl
noncomputable def F73:Fn:=⟨24,[4],[],[],0,[],[],Tryz.f73,[.agg [.int .i64,.slice 1,.slice 1],.agg [.int .i64,.slice 1,.slice 1]],[.c (.bool)],[(71,F71.S)]⟩
theorem ZCQ:F73.S.Ok Tryz.prog 73:=F73.ok Tryz.func73 (by kernel_rfl) ⟨ZCS,trivial⟩
noncomputable def g73 (a:Int) (b c:LL) (d:Int) (e f:LL):Option (Bool):=F73.S.g [.i a,.l b,.l c,.i d,.l e,.l f]
theorem Zyd (a:Int) (b c:LL) (d:Int) (e f:LL):g73 a b c d e f =
 (if (cop .eql a d) then
 (g71 b e).bind fun g=>
 if g then
 (g71 c f).bind fun h=>
 some (h)
 else
 some (false)
 else
 some (false)):=by kernel_rfl
noncomputable def ZxS:Fn:=⟨55,[4],[(4,[(0,.c (.slice 15)),(1,.c (.slice 15)),(5,.c (.int .i64))])],[],0,[],[],Tryz.f151,[.c (.slice 15),.c (.slice 15)],[.c (.bool)],[(127,ZpB.S)]⟩
theorem ZB7:ZxS.S.Ok Tryz.prog 151:=ZxS.ok Tryz.func151 (by kernel_rfl) ⟨Zmj,trivial⟩
noncomputable def ZAG (a b:LL):Option (Bool):=ZxS.S.g [.l a,.l b]
noncomputable def ZgM (k:Nat) (a b:LL) (c:Int):Option (Bool):=ZxS.lp [1,0] 0 r0 k [.l a,.l b,.i c]
theorem ZgS (k:Nat) (d e:LL) (c:Int):ZgM (k+1) d e c =
 (if (cop .lss c (List.length d:Int)) then
 Zm d c hs11 fun (h:Qt21)=>
 Zm e c hs11 fun (i:Qt21)=>
 if (cop .neq h.2.2.2.2.2.2.2.2.2.2.2.1 i.2.2.2.2.2.2.2.2.2.2.2.1) then
 some (false)
 else
 Zm d c hs11 fun (f:Qt21)=>
 Zm e c hs11 fun (g:Qt21)=>
 if (!((cop .eql (d4 (d8 f)).1 (d4 (d8 g)).1)&&((cop .eql (d4 (d8 f)).2.1 (d4 (d8 g)).2.1)&&((cop .eql (d2 (d4 (d8 f))) (d2 (d4 (d8 g))))&&true)))) then
 some (false)
 else
 Zm d c hs11 fun (a:Qt21)=>
 Zm e c hs11 fun (b:Qt21)=>
 (Zop a.1 a.2.1 a.2.2.1 a.2.2.2.1 a.2.2.2.2.1 a.2.2.2.2.2.1 a.2.2.2.2.2.2.1 a.2.2.2.2.2.2.2.1 a.2.2.2.2.2.2.2.2.1 a.2.2.2.2.2.2.2.2.2.1 a.2.2.2.2.2.2.2.2.2.2.1 b.1 b.2.1 b.2.2.1 b.2.2.2.1 b.2.2.2.2.1 b.2.2.2.2.2.1 b.2.2.2.2.2.2.1 b.2.2.2.2.2.2.2.1 b.2.2.2.2.2.2.2.2.1 b.2.2.2.2.2.2.2.2.2.1 b.2.2.2.2.2.2.2.2.2.2.1).bind fun j=>
 if (!j) then
 some (false)
 else
 ZgM k d e (iop .add .i64 c 1)
 else
 some (true)):=by kernel_rfl
theorem ZtK (a b:LL):ZAG a b =
 (if (cop .neq (List.length a:Int) (List.length b:Int)) then
 some (false)
 else
 ZgM Zr a b 0):=by kernel_rfl
noncomputable def Zu0:Fn:=⟨27,[4],[(4,[(0,.c (.slice 28)),(1,.c (.slice 28)),(5,.c (.int .i64))])],[],0,[],[],Tryz.f152,[.c (.slice 28),.c (.slice 28)],[.c (.bool)],[(68,F68.S)]⟩
theorem ZBx:Zu0.S.Ok Tryz.prog 152:=Zu0.ok Tryz.func152 (by kernel_rfl) ⟨ZCW,trivial⟩
noncomputable def ZAo (a b:LL):Option (Bool):=Zu0.S.g [.l a,.l b]
noncomputable def ZhI (k:Nat) (a b:LL) (c:Int):Option (Bool):=Zu0.lp [1,0] 0 r0 k [.l a,.l b,.i c]
theorem Zgv (k:Nat) (d e:LL) (c:Int):ZhI (k+1) d e c =
 (if (cop .lss c (List.length d:Int)) then
 Zm d c hs6 fun (a:Qt10)=>
 Zm e c hs6 fun (b:Qt10)=>
 (g68 a.1 a.2.1 a.2.2.1 a.2.2.2.1 a.2.2.2.2.1 a.2.2.2.2.2.1 a.2.2.2.2.2.2.1 a.2.2.2.2.2.2.2.1 a.2.2.2.2.2.2.2.2.1 a.2.2.2.2.2.2.2.2.2.1 a.2.2.2.2.2.2.2.2.2.2.1 a.2.2.2.2.2.2.2.2.2.2.2.1 (d4 (d8 a)).1 (d4 (d8 a)).2.1 (d2 (d4 (d8 a))).1 (d2 (d4 (d8 a))).2.1 (d16 a).1 (d16 a).2.1 (d2 (d16 a)).1 (d2 (d16 a)).2.1 (d4 (d16 a)).1 (d4 (d16 a)).2.1 (d2 (d4 (d16 a))).1 (d2 (d4 (d16 a))).2.1 (d8 (d16 a)).1 (d8 (d16 a)).2.1 (d2 (d8 (d16 a))).1 (d2 (d8 (d16 a))).2 b.1 b.2.1 b.2.2.1 b.2.2.2.1 b.2.2.2.2.1 b.2.2.2.2.2.1 b.2.2.2.2.2.2.1 b.2.2.2.2.2.2.2.1 b.2.2.2.2.2.2.2.2.1 b.2.2.2.2.2.2.2.2.2.1 b.2.2.2.2.2.2.2.2.2.2.1 b.2.2.2.2.2.2.2.2.2.2.2.1 (d4 (d8 b)).1 (d4 (d8 b)).2.1 (d2 (d4 (d8 b))).1 (d2 (d4 (d8 b))).2.1 (d16 b).1 (d16 b).2.1 (d2 (d16 b)).1 (d2 (d16 b)).2.1 (d4 (d16 b)).1 (d4 (d16 b)).2.1 (d2 (d4 (d16 b))).1 (d2 (d4 (d16 b))).2.1 (d8 (d16 b)).1 (d8 (d16 b)).2.1 (d2 (d8 (d16 b))).1 (d2 (d8 (d16 b))).2).bind fun f=>
 if (!f) then
 some (false)
 else
 ZhI k d e (iop .add .i64 c 1)
 else
 some (true)):=by kernel_rfl
theorem Zud (a b:LL):ZAo a b =
 (if (cop .neq (List.length a:Int) (List.length b:Int)) then
 some (false)
 else
 ZhI Zr a b 0):=by kernel_rfl
noncomputable def ZvC:Fn:=⟨26,[4],[(4,[(0,.c (.slice 4)),(1,.c (.slice 4)),(5,.c (.int .i64))])],[],0,[],[],Tryz.f153,[.c (.slice 4),.c (.slice 4)],[.c (.bool)],[]⟩
theorem ZBg:ZvC.S.Ok Tryz.prog 153:=ZvC.ok Tryz.func153 (by kernel_rfl) trivial
noncomputable def ZAt (a b:LL):Option (Bool):=ZvC.S.g [.l a,.l b]
noncomputable def ZhO (k:Nat) (a b:LL) (c:Int):Option (Bool):=ZvC.lp [1,0] 0 r0 k [.l a,.l b,.i c]
theorem Zhy (k:Nat) (b e:LL) (a:Int):ZhO (k+1) b e a =
 (if (cop .lss a (List.length b:Int)) then
 Zm b a [.int .i64,.int .i64,.int .i64,.int .i64] fun (c:Int×Int×Int×Int)=>
 Zm e a [.int .i64,.int .i64,.int .i64,.int .i64] fun (d:Int×Int×Int×Int)=>
 if (!((cop .eql c.1 d.1)&&((cop .eql c.2.1 d.2.1)&&((cop .eql c.2.2.1 d.2.2.1)&&((cop .eql c.2.2.2 d.2.2.2)&&true))))) then
 some (false)
 else
 ZhO k b e (iop .add .i64 a 1)
 else
 some (true)):=by kernel_rfl
theorem Zr6 (a b:LL):ZAt a b =
 (if (cop .neq (List.length a:Int) (List.length b:Int)) then
 some (false)
 else
 ZhO Zr a b 0):=by kernel_rfl
noncomputable def ZvE:Fn:=⟨26,[4],[(4,[(0,.c (.slice 2)),(1,.c (.slice 2)),(5,.c (.int .i64))])],[],0,[],[],Tryz.f154,[.c (.slice 2),.c (.slice 2)],[.c (.bool)],[]⟩
theorem ZBB:ZvE.S.Ok Tryz.prog 154:=ZvE.ok Tryz.func154 (by kernel_rfl) trivial
noncomputable def ZzG (a b:LL):Option (Bool):=ZvE.S.g [.l a,.l b]
noncomputable def ZgV (k:Nat) (a b:LL) (c:Int):Option (Bool):=ZvE.lp [1,0] 0 r0 k [.l a,.l b,.i c]
theorem Zh7 (k:Nat) (b c:LL) (a:Int):ZgV (k+1) b c a =
 (if (cop .lss a (List.length b:Int)) then
 Zm b a [.int .i64,.int .i64] fun (d:Int×Int)=>
 Zm c a [.int .i64,.int .i64] fun (e:Int×Int)=>
 if (!((cop .eql d.1 e.1)&&((cop .eql d.2 e.2)&&true))) then
 some (false)
 else
 ZgV k b c (iop .add .i64 a 1)
 else
 some (true)):=by kernel_rfl
theorem Zt5 (a b:LL):ZzG a b =
 (if (cop .neq (List.length a:Int) (List.length b:Int)) then
 some (false)
 else
 ZgV Zr a b 0):=by kernel_rfl
noncomputable def Zyc:Fn:=⟨55,[4],[(4,[(0,.c (.slice 13)),(1,.c (.slice 13)),(5,.c (.int .i64))])],[],0,[],[],Tryz.f155,[.c (.slice 13),.c (.slice 13)],[.c (.bool)],[(127,ZpB.S)]⟩
theorem ZA8:Zyc.S.Ok Tryz.prog 155:=Zyc.ok Tryz.func155 (by kernel_rfl) ⟨Zmj,trivial⟩
noncomputable def ZCL (a b:LL):Option (Bool):=Zyc.S.g [.l a,.l b]
noncomputable def Zgo (k:Nat) (a b:LL) (c:Int):Option (Bool):=Zyc.lp [1,0] 0 r0 k [.l a,.l b,.i c]
theorem Zh2 (k:Nat) (d e:LL) (c:Int):Zgo (k+1) d e c =
 (if (cop .lss c (List.length d:Int)) then
 Zm d c hs12 fun (f:Qt25)=>
 Zm e c hs12 fun (g:Qt25)=>
 if (cop .neq f.1 g.1) then
 some (false)
 else
 Zm d c hs12 fun (h:Qt25)=>
 Zm e c hs12 fun (i:Qt25)=>
 if (cop .neq h.2.1 i.2.1) then
 some (false)
 else
 Zm d c hs12 fun (a:Qt25)=>
 Zm e c hs12 fun (b:Qt25)=>
 (Zop a.2.2.1 a.2.2.2.1 a.2.2.2.2.1 a.2.2.2.2.2.1 a.2.2.2.2.2.2.1 a.2.2.2.2.2.2.2.1 a.2.2.2.2.2.2.2.2.1 a.2.2.2.2.2.2.2.2.2.1 a.2.2.2.2.2.2.2.2.2.2.1 a.2.2.2.2.2.2.2.2.2.2.2.1 (d4 (d8 a)) b.2.2.1 b.2.2.2.1 b.2.2.2.2.1 b.2.2.2.2.2.1 b.2.2.2.2.2.2.1 b.2.2.2.2.2.2.2.1 b.2.2.2.2.2.2.2.2.1 b.2.2.2.2.2.2.2.2.2.1 b.2.2.2.2.2.2.2.2.2.2.1 b.2.2.2.2.2.2.2.2.2.2.2.1 (d4 (d8 b))).bind fun j=>
 if (!j) then
 some (false)
 else
 Zgo k d e (iop .add .i64 c 1)
 else
 some (true)):=by kernel_rfl
theorem Zt8 (a b:LL):ZCL a b =
 (if (cop .neq (List.length a:Int) (List.length b:Int)) then
 some (false)
 else
 Zgo Zr a b 0):=by kernel_rfl
noncomputable def F74:Fn:=⟨45,[4],[],[],0,[],[],Tryz.f74,[.agg hs30,.agg hs30],[.c (.bool)],[(151,ZxS.S),(152,Zu0.S),(153,ZvC.S),(154,ZvE.S),(155,Zyc.S),(69,F69.S)]⟩
theorem ZDr:F74.S.Ok Tryz.prog 74:=F74.ok Tryz.func74 (by kernel_rfl) ⟨ZB7,⟨ZBx,⟨ZBg,⟨ZBB,⟨ZA8,⟨Zz6,trivial⟩⟩⟩⟩⟩⟩
noncomputable def g74 (a b c d e f h i j k m n:LL):Option (Bool):=F74.S.g [.l a,.l b,.l c,.l d,.l e,.l f,.l h,.l i,.l j,.l k,.l m,.l n]
theorem Zvf (a b c d e f g h i j k l:LL):g74 a b c d e f g h i j k l =
 ((ZAG a g).bind fun m=>
 if m then
 (ZAo b h).bind fun n=>
 if n then
 (ZAt c i).bind fun o=>
 if o then
 (ZzG d j).bind fun p=>
 if p then
 (ZCL e k).bind fun q=>
 if q then
 (g69 f l).bind fun r=>
 some (r)
 else
 some (false)
 else
 some (false)
 else
 some (false)
 else
 some (false)
 else
 some (false)):=by kernel_rfl
noncomputable def F75:Fn:=⟨45,[4],[],[],0,[],[],Tryz.f75,[.agg hs7,.agg hs7],[.c (.bool)],[(73,F73.S),(74,F74.S)]⟩
theorem ZEz:F75.S.Ok Tryz.prog 75:=F75.ok Tryz.func75 (by kernel_rfl) ⟨ZCQ,⟨ZDr,trivial⟩⟩
noncomputable def g75 (a c:Int) (d e f h j k m n:LL) (o:Bool) (p:Int) (q r s t u v w x:LL) (y z:Int) (A C D E G H J K:LL) (L:Bool) (M:Int) (N O P Q R T U V:LL):Option (Bool):=F75.S.g [.i a,.i c,.l d,.l e,.l f,.l h,.l j,.l k,.l m,.l n,.b o,.i p,.l q,.l r,.l s,.l t,.l u,.l v,.l w,.l x,.i y,.i z,.l A,.l C,.l D,.l E,.l G,.l H,.l J,.l K,.b L,.i M,.l N,.l O,.l P,.l Q,.l R,.l T,.l U,.l V]
theorem ZwJ (a b:Int) (c d e f g h i j:LL) (k:Bool) (l:Int) (m n o p q r s t:LL) (u v:Int) (w x y z A C D E:LL) (G:Bool) (H:Int) (J K L M N O P Q:LL):g75 a b c d e f g h i j k l m n o p q r s t u v w x y z A C D E G H J K L M N O P Q =
 (if (cop .eql a u) then
 (g73 b c d v w x).bind fun R=>
 if R then
 (g74 e f g h i j y z A C D E).bind fun T=>
 if T then
 if (k == G) then
 (g73 l m n H J K).bind fun U=>
 if U then
 (g74 o p q r s t L M N O P Q).bind fun V=>
 some (V)
 else
 some (false)
 else
 some (false)
 else
 some (false)
 else
 some (false)
 else
 some (false)):=by kernel_rfl
noncomputable def F19:Fn:=⟨134,[4],[],[],0,[],[],Tryz.f19,[.agg hs0,.agg hs0],[.c (.bool)],[(68,F68.S),(69,F69.S),(70,F70.S),(71,F71.S),(72,F72.S),(73,F73.S),(74,F74.S),(75,F75.S)]⟩
theorem ZCZ:F19.S.Ok Tryz.prog 19:=F19.ok Tryz.func19 (by kernel_rfl) ⟨ZCW,⟨Zz6,⟨ZE5,⟨ZCS,⟨ZED,⟨ZCQ,⟨ZDr,⟨ZEz,trivial⟩⟩⟩⟩⟩⟩⟩⟩
noncomputable def g19 (a c d e f h j k m n o:Int) (p:Bool) (q r s t u v w x y z A C D E G H J K L M:Int) (N:LL) (O P Q R T U:Int) (V:Bool) (W X Y Z:LL) (aa ab:Int) (ac ad ae af ag ah ai aj:LL) (ak al:Int) (am an ao ap aq ar aZ au:LL) (av:Bool) (aw:Int) (ax ay az a0 a1 a2 a3 a4:LL) (a5 a6 a7 a8 a9 ba bb bc bd be bf:Int) (bg:Bool) (bh bi bj bk bl bm bn bo bp bq br bs bt bu bv bw bx bz b0 b1:Int) (b2:LL) (b3 b4 b5 b6 b7 b8:Int) (b9:Bool) (ca cb cc cd:LL) (ce cf:Int) (cg ch ci cj ck cl cm cn:LL) (co cp:Int) (cq cr cs ct cu cv cw cx:LL) (cy:Bool) (cz:Int) (c0 c1 c2 c3 c4 c5 c6 c7:LL):Option (Bool):=F19.S.g [.i a,.i c,.i d,.i e,.i f,.i h,.i j,.i k,.i m,.i n,.i o,.b p,.i q,.i r,.i s,.i t,.i u,.i v,.i w,.i x,.i y,.i z,.i A,.i C,.i D,.i E,.i G,.i H,.i J,.i K,.i L,.i M,.l N,.i O,.i P,.i Q,.i R,.i T,.i U,.b V,.l W,.l X,.l Y,.l Z,.i aa,.i ab,.l ac,.l ad,.l ae,.l af,.l ag,.l ah,.l ai,.l aj,.i ak,.i al,.l am,.l an,.l ao,.l ap,.l aq,.l ar,.l aZ,.l au,.b av,.i aw,.l ax,.l ay,.l az,.l a0,.l a1,.l a2,.l a3,.l a4,.i a5,.i a6,.i a7,.i a8,.i a9,.i ba,.i bb,.i bc,.i bd,.i be,.i bf,.b bg,.i bh,.i bi,.i bj,.i bk,.i bl,.i bm,.i bn,.i bo,.i bp,.i bq,.i br,.i bs,.i bt,.i bu,.i bv,.i bw,.i bx,.i bz,.i b0,.i b1,.l b2,.i b3,.i b4,.i b5,.i b6,.i b7,.i b8,.b b9,.l ca,.l cb,.l cc,.l cd,.i ce,.i cf,.l cg,.l ch,.l ci,.l cj,.l ck,.l cl,.l cm,.l cn,.i co,.i cp,.l cq,.l cr,.l cs,.l ct,.l cu,.l cv,.l cw,.l cx,.b cy,.i cz,.l c0,.l c1,.l c2,.l c3,.l c4,.l c5,.l c6,.l c7]
theorem Zu7 (a b c d e f g h i j k:Int) (l:Bool) (m n o p q r s t u v w x y z A C D E G H:Int) (J:LL) (K L M N O P:Int) (Q:Bool) (R T U V:LL) (W X:Int) (Y Z aa ab ac ad ae af:LL) (ag ah:Int) (ai aj ak al am an ao ap:LL) (aq:Bool) (ar:Int) (aZ au av aw ax ay az a0:LL) (a1 a2 a3 a4 a5 a6 a7 a8 a9 ba bb:Int) (bc:Bool) (bd be bf bg bh bi bj bk bl bm bn bo bp bq br bs bt bu bv bw:Int) (bx:LL) (bz b0 b1 b2 b3 b4:Int) (b5:Bool) (b6 b7 b8 b9:LL) (ca cb:Int) (cc cd ce cf cg ch ci cj:LL) (ck cl:Int) (cm cn co cp cq cr cs ct:LL) (cu:Bool) (cv:Int) (cw cx cy cz c0 c1 c2 c3:LL):g19 a b c d e f g h i j k l m n o p q r s t u v w x y z A C D E G H J K L M N O P Q R T U V W X Y Z aa ab ac ad ae af ag ah ai aj ak al am an ao ap aq ar aZ au av aw ax ay az a0 a1 a2 a3 a4 a5 a6 a7 a8 a9 ba bb bc bd be bf bg bh bi bj bk bl bm bn bo bp bq br bs bt bu bv bw bx bz b0 b1 b2 b3 b4 b5 b6 b7 b8 b9 ca cb cc cd ce cf cg ch ci cj ck cl cm cn co cp cq cr cs ct cu cv cw cx cy cz c0 c1 c2 c3 =
 (if (cop .neq a a1) then
 some (false)
 else
 if (cop .neq b a2) then
 some (false)
 else
 if (cop .neq c a3) then
 some (false)
 else
 if (cop .neq d a4) then
 some (false)
 else
 if (cop .neq e a5) then
 some (false)
 else
 if (cop .neq f a6) then
 some (false)
 else
 if (cop .neq g a7) then
 some (false)
 else
 if (!((cop .eql h a8)&&((cop .eql i a9)&&((cop .eql j ba)&&true)))) then
 some (false)
 else
 if (cop .neq k bb) then
 some (false)
 else
 if (!(l == bc)) then
 some (false)
 else
 if (cop .neq W ca) then
 some (false)
 else
 (g68 m n o p q r s t u v w x y z A C D E G H J K L M N O P Q bd be bf bg bh bi bj bk bl bm bn bo bp bq br bs bt bu bv bw bx bz b0 b1 b2 b3 b4 b5).bind fun c4=>
 if c4 then
 (g69 R b6).bind fun c5=>
 if c5 then
 (g70 T b7).bind fun c6=>
 if c6 then
 (g71 U b8).bind fun c7=>
 if c7 then
 (g72 V b9).bind fun c8=>
 if c8 then
 (g73 X Y Z cb cc cd).bind fun c9=>
 if c9 then
 (g74 aa ab ac ad ae af ce cf cg ch ci cj).bind fun da=>
 if da then
 (g75 ag ah ai aj ak al am an ao ap aq ar aZ au av aw ax ay az a0 ck cl cm cn co cp cq cr cs ct cu cv cw cx cy cz c0 c1 c2 c3).bind fun db=>
 some (db)
 else
 some (false)
 else
 some (false)
 else
 some (false)
 else
 some (false)
 else
 some (false)
 else
 some (false)
 else
 some (false)):=by kernel_rfl
noncomputable def F16:Fn:=⟨295,[2],[(60,[(1,.box hs0),(3,.box hs0),(4,.c (.bool)),(5,.c (.int .i64))])],[],0,[],[],Tryz.f16,[.agg hs0],[.c (.bool)],[(50,F50.S),(51,F51.S),(52,F52.S),(61,F61.S),(62,F62.S),(19,F19.S),(53,F53.S),(54,F54.S),(55,F55.S),(56,F56.S),(57,F57.S),(58,F58.S),(59,F59.S),(60,F60.S)]⟩
theorem ZC1:F16.S.Ok Tryz.prog 16:=F16.ok Tryz.func16 (by kernel_rfl) ⟨ZC7,⟨Zut,⟨ZDc,⟨Zuw,⟨Zyo,⟨ZCZ,⟨Zzq,⟨ZDu,⟨ZDy,⟨ZDT,⟨ZDG,⟨ZCR,⟨ZC3,⟨ZEZ,trivial⟩⟩⟩⟩⟩⟩⟩⟩⟩⟩⟩⟩⟩⟩
noncomputable def g16 (a c d e f h j k m n o:Int) (p:Bool) (q r s t u v w x y z A C D E G H J K L M:Int) (N:LL) (O P Q R T U:Int) (V:Bool) (W X Y Z:LL) (aa ab:Int) (ac ad ae af ag ah ai aj:LL) (ak al:Int) (am an ao ap aq ar aZ au:LL) (av:Bool) (aw:Int) (ax ay az a0 a1 a2 a3 a4:LL):Option (Bool):=F16.S.g [.i a,.i c,.i d,.i e,.i f,.i h,.i j,.i k,.i m,.i n,.i o,.b p,.i q,.i r,.i s,.i t,.i u,.i v,.i w,.i x,.i y,.i z,.i A,.i C,.i D,.i E,.i G,.i H,.i J,.i K,.i L,.i M,.l N,.i O,.i P,.i Q,.i R,.i T,.i U,.b V,.l W,.l X,.l Y,.l Z,.i aa,.i ab,.l ac,.l ad,.l ae,.l af,.l ag,.l ah,.l ai,.l aj,.i ak,.i al,.l am,.l an,.l ao,.l ap,.l aq,.l ar,.l aZ,.l au,.b av,.i aw,.l ax,.l ay,.l az,.l a0,.l a1,.l a2,.l a3,.l a4]
noncomputable def YL (k:Nat) (a c d e f g h j m n o:Int) (p:Bool) (q r s t u v w x y z A C D E G H J K L M:Int) (N:LL) (O P Q R T U:Int) (V:Bool) (W X Y Z:LL) (aa ab:Int) (ac ad ae af ag ah ai aj:LL) (ak al:Int) (am an ao ap aq ar aZ au:LL) (av:Bool) (aw:Int) (ax ay az a0 a1 a2 a3 a4:LL) (a5 a6 a7 a8 a9 ba bb bc bd be bf:Int) (bg:Bool) (bh bi bj bk bl bm bn bo bp bq br bs bt bu bv bw bx bz b0 b1:Int) (b2:LL) (b3 b4 b5 b6 b7 b8:Int) (b9:Bool) (ca cb cc cd:LL) (ce cf:Int) (cg ch ci cj ck cl cm cn:LL) (co cp:Int) (cq cr cs ct cu cv cw cx:LL) (cy:Bool) (cz:Int) (c0 c1 c2 c3 c4 c5 c6 c7:LL) (c8:Bool) (c9:Int):Option (Bool):=F16.lp [1,1,0,1,0,1,0,1,0,2] 0 r0 k [.i a,.i c,.i d,.i e,.i f,.i g,.i h,.i j,.i m,.i n,.i o,.b p,.i q,.i r,.i s,.i t,.i u,.i v,.i w,.i x,.i y,.i z,.i A,.i C,.i D,.i E,.i G,.i H,.i J,.i K,.i L,.i M,.l N,.i O,.i P,.i Q,.i R,.i T,.i U,.b V,.l W,.l X,.l Y,.l Z,.i aa,.i ab,.l ac,.l ad,.l ae,.l af,.l ag,.l ah,.l ai,.l aj,.i ak,.i al,.l am,.l an,.l ao,.l ap,.l aq,.l ar,.l aZ,.l au,.b av,.i aw,.l ax,.l ay,.l az,.l a0,.l a1,.l a2,.l a3,.l a4,.i a5,.i a6,.i a7,.i a8,.i a9,.i ba,.i bb,.i bc,.i bd,.i be,.i bf,.b bg,.i bh,.i bi,.i bj,.i bk,.i bl,.i bm,.i bn,.i bo,.i bp,.i bq,.i br,.i bs,.i bt,.i bu,.i bv,.i bw,.i bx,.i bz,.i b0,.i b1,.l b2,.i b3,.i b4,.i b5,.i b6,.i b7,.i b8,.b b9,.l ca,.l cb,.l cc,.l cd,.i ce,.i cf,.l cg,.l ch,.l ci,.l cj,.l ck,.l cl,.l cm,.l cn,.i co,.i cp,.l cq,.l cr,.l cs,.l ct,.l cu,.l cv,.l cw,.l cx,.b cy,.i cz,.l c0,.l c1,.l c2,.l c3,.l c4,.l c5,.l c6,.l c7,.b c8,.i c9]
theorem ZjK (k:Nat) (d e f g h b i j l m n:Int) (o:Bool) (p q r s t u v w x y z A C D E G H J K L:Int) (M:LL) (N O P Q R T:Int) (U:Bool) (V c W X:LL) (Y Z:Int) (aa ab ac ad ae af ag ah:LL) (ai aj:Int) (ak al am an ao ap aq ar:LL) (aZ:Bool) (au:Int) (av aw ax ay az a0 a1 a2:LL) (a3 a4 a5 a6 a7 a8 a9 ba bb bc bd:Int) (be:Bool) (bf bg bh bi bj bk bl bm bn bo bp bq br bs bt bu bv bw bx bz:Int) (b0:LL) (b1 b2 b3 b4 b5 b6:Int) (b7:Bool) (b8 b9 ca cb:LL) (cc cd:Int) (ce cf cg ch ci cj ck cl:LL) (cm cn:Int) (co cp cq cr cs ct cu cv:LL) (cw:Bool) (cx:Int) (cy cz c0 c1 c2 c3 c4 c5:LL) (c6:Bool) (c7:Int):YL (k+1) d e f g h b i j l m n o p q r s t u v w x y z A C D E G H J K L M N O P Q R T U V c W X Y Z aa ab ac ad ae af ag ah ai aj ak al am an ao ap aq ar aZ au av aw ax ay az a0 a1 a2 a3 a4 a5 a6 a7 a8 a9 ba bb bc bd be bf bg bh bi bj bk bl bm bn bo bp bq br bs bt bu bv bw bx bz b0 b1 b2 b3 b4 b5 b6 b7 b8 b9 ca cb cc cd ce cf cg ch ci cj ck cl cm cn co cp cq cr cs ct cu cv cw cx cy cz c0 c1 c2 c3 c4 c5 c6 c7 =
 (if (cop .lss c7 (List.length c:Int)) then
 if c6 then
 Zm c c7 hs16 fun (a:Qt31)=>
 (g61 a.1 a.2.1 a.2.2.1 a.2.2.2.1 a.2.2.2.2.1 a.2.2.2.2.2.1 a.2.2.2.2.2.2.1 a.2.2.2.2.2.2.2.1 a.2.2.2.2.2.2.2.2.1 a.2.2.2.2.2.2.2.2.2.1 a.2.2.2.2.2.2.2.2.2.2).bind fun c9=>
 YL k d e f g h b i j l m n o p q r s t u v w x y z A C D E G H J K L M N O P Q R T U V c W X Y Z aa ab ac ad ae af ag ah ai aj ak al am an ao ap aq ar aZ au av aw ax ay az a0 a1 a2 a3 a4 a5 a6 a7 a8 a9 ba bb bc bd be bf bg bh bi bj bk bl bm bn bo bp bq br bs bt bu bv bw bx bz b0 b1 b2 b3 b4 b5 b6 b7 b8 b9 ca cb cc cd ce cf cg ch ci cj ck cl cm cn co cp cq cr cs ct cu cv cw cx cy cz c0 c1 c2 c3 c4 c5 c9 (iop .add .i64 c7 1)
 else
 if c6 then
 (g62 b).bind fun a=>
 if a then
 (g19 d e f g h b i j l m n o p q r s t u v w x y z A C D E G H J K L M N O P Q R T U V c W X Y Z aa ab ac ad ae af ag ah ai aj ak al am an ao ap aq ar aZ au av aw ax ay az a0 a1 a2 a3 a4 a5 a6 a7 a8 a9 ba bb bc bd be bf bg bh bi bj bk bl bm bn bo bp bq br bs bt bu bv bw bx bz b0 b1 b2 b3 b4 b5 b6 b7 b8 b9 ca cb cc cd ce cf cg ch ci cj ck cl cm cn co cp cq cr cs ct cu cv cw cx cy cz c0 c1 c2 c3 c4 c5).bind fun c8=>
 some (c8)
 else
 some (false)
 else
 some (false)
 else
 if c6 then
 (g62 b).bind fun a=>
 if a then
 (g19 d e f g h b i j l m n o p q r s t u v w x y z A C D E G H J K L M N O P Q R T U V c W X Y Z aa ab ac ad ae af ag ah ai aj ak al am an ao ap aq ar aZ au av aw ax ay az a0 a1 a2 a3 a4 a5 a6 a7 a8 a9 ba bb bc bd be bf bg bh bi bj bk bl bm bn bo bp bq br bs bt bu bv bw bx bz b0 b1 b2 b3 b4 b5 b6 b7 b8 b9 ca cb cc cd ce cf cg ch ci cj ck cl cm cn co cp cq cr cs ct cu cv cw cx cy cz c0 c1 c2 c3 c4 c5).bind fun c8=>
 some (c8)
 else
 some (false)
 else
 some (false)):=by kernel_rfl
theorem YF (a b c d h i m e f g l:Int) (y:Bool) (Z aa ab ac ad ae af ag ah ai aj ak al am an ao ap aq ar aZ:Int) (au:LL) (av aw ax ay az a0:Int) (a1:Bool) (x k j z:LL) (n o:Int) (p q r s t u v w:LL) (A C:Int) (D E G H J K L M:LL) (O:Bool) (P:Int) (Q R T U V W X Y:LL):g16 a b c d h i m e f g l y Z aa ab ac ad ae af ag ah ai aj ak al am an ao ap aq ar aZ au av aw ax ay az a0 a1 x k j z n o p q r s t u v w A C D E G H J K L M O P Q R T U V W X Y =
 (if (cop .lss a 1) then
 some (false)
 else
 if (cop .gtr a 17) then
 some (false)
 else
 (g50 b).bind fun a4=>
 if (!a4) then
 some (false)
 else
 (g51 c).bind fun a5=>
 if (!a5) then
 some (false)
 else
 (g51 d).bind fun a6=>
 if (!a6) then
 some (false)
 else
 if (cop .eql a 1) then
 (g52 Z aa ab ac ad ae af ag ah ai aj ak al am an ao ap aq ar aZ au av aw ax ay az a0 a1).bind fun a2=>
 YL Zr a b c d h i m e f g l y Z aa ab ac ad ae af ag ah ai aj ak al am an ao ap aq ar aZ au av aw ax ay az a0 a1 x k j z n o p q r s t u v w A C D E G H J K L M O P Q R T U V W X Y a b c d 0 i 0 0 0 0 0 false Z aa ab ac ad ae af ag ah ai aj ak al am an ao ap aq ar aZ au av aw ax ay az a0 a1 E0 E0 E0 E0 0 0 E0 E0 E0 E0 E0 E0 E0 E0 0 0 E0 E0 E0 E0 E0 E0 E0 E0 false 0 E0 E0 E0 E0 E0 E0 E0 E0 a2 0
 else
 if (cop .eql a 2) then
 (g53 e f g).bind fun a2=>
 if a2 then
 (g54 l).bind fun a3=>
 if a3 then
 YL Zr a b c d h i m e f g l y Z aa ab ac ad ae af ag ah ai aj ak al am an ao ap aq ar aZ au av aw ax ay az a0 a1 x k j z n o p q r s t u v w A C D E G H J K L M O P Q R T U V W X Y a b c d 0 i 0 e f g l y 0 0 0 0 0 0 0 0 0 0 0 0 0 0 0 0 0 0 0 0 E0 0 0 0 0 0 0 false E0 k E0 E0 0 0 E0 E0 E0 E0 E0 E0 E0 E0 0 0 E0 E0 E0 E0 E0 E0 E0 E0 false 0 E0 E0 E0 E0 E0 E0 E0 E0 (cop .leq (List.length k:Int) 8) 0
 else
 YL Zr a b c d h i m e f g l y Z aa ab ac ad ae af ag ah ai aj ak al am an ao ap aq ar aZ au av aw ax ay az a0 a1 x k j z n o p q r s t u v w A C D E G H J K L M O P Q R T U V W X Y a b c d 0 i 0 e f g l y 0 0 0 0 0 0 0 0 0 0 0 0 0 0 0 0 0 0 0 0 E0 0 0 0 0 0 0 false E0 k E0 E0 0 0 E0 E0 E0 E0 E0 E0 E0 E0 0 0 E0 E0 E0 E0 E0 E0 E0 E0 false 0 E0 E0 E0 E0 E0 E0 E0 E0 false 0
 else
 YL Zr a b c d h i m e f g l y Z aa ab ac ad ae af ag ah ai aj ak al am an ao ap aq ar aZ au av aw ax ay az a0 a1 x k j z n o p q r s t u v w A C D E G H J K L M O P Q R T U V W X Y a b c d 0 i 0 e f g l y 0 0 0 0 0 0 0 0 0 0 0 0 0 0 0 0 0 0 0 0 E0 0 0 0 0 0 0 false E0 k E0 E0 0 0 E0 E0 E0 E0 E0 E0 E0 E0 0 0 E0 E0 E0 E0 E0 E0 E0 E0 false 0 E0 E0 E0 E0 E0 E0 E0 E0 false 0
 else
 if (cop .eql a 4) then
 (g53 e f g).bind fun a2=>
 if a2 then
 if (cop .geq m 0) then
 if (cop .lss m 64) then
 YL Zr a b c d h i m e f g l y Z aa ab ac ad ae af ag ah ai aj ak al am an ao ap aq ar aZ au av aw ax ay az a0 a1 x k j z n o p q r s t u v w A C D E G H J K L M O P Q R T U V W X Y a b c d 0 i m e f g 0 false 0 0 0 0 0 0 0 0 0 0 0 0 0 0 0 0 0 0 0 0 E0 0 0 0 0 0 0 false E0 k E0 E0 0 0 E0 E0 E0 E0 E0 E0 E0 E0 0 0 E0 E0 E0 E0 E0 E0 E0 E0 false 0 E0 E0 E0 E0 E0 E0 E0 E0 (cop .eql (List.length k:Int) 1) 0
 else
 YL Zr a b c d h i m e f g l y Z aa ab ac ad ae af ag ah ai aj ak al am an ao ap aq ar aZ au av aw ax ay az a0 a1 x k j z n o p q r s t u v w A C D E G H J K L M O P Q R T U V W X Y a b c d 0 i m e f g 0 false 0 0 0 0 0 0 0 0 0 0 0 0 0 0 0 0 0 0 0 0 E0 0 0 0 0 0 0 false E0 k E0 E0 0 0 E0 E0 E0 E0 E0 E0 E0 E0 0 0 E0 E0 E0 E0 E0 E0 E0 E0 false 0 E0 E0 E0 E0 E0 E0 E0 E0 false 0
 else
 YL Zr a b c d h i m e f g l y Z aa ab ac ad ae af ag ah ai aj ak al am an ao ap aq ar aZ au av aw ax ay az a0 a1 x k j z n o p q r s t u v w A C D E G H J K L M O P Q R T U V W X Y a b c d 0 i m e f g 0 false 0 0 0 0 0 0 0 0 0 0 0 0 0 0 0 0 0 0 0 0 E0 0 0 0 0 0 0 false E0 k E0 E0 0 0 E0 E0 E0 E0 E0 E0 E0 E0 0 0 E0 E0 E0 E0 E0 E0 E0 E0 false 0 E0 E0 E0 E0 E0 E0 E0 E0 false 0
 else
 YL Zr a b c d h i m e f g l y Z aa ab ac ad ae af ag ah ai aj ak al am an ao ap aq ar aZ au av aw ax ay az a0 a1 x k j z n o p q r s t u v w A C D E G H J K L M O P Q R T U V W X Y a b c d 0 i m e f g 0 false 0 0 0 0 0 0 0 0 0 0 0 0 0 0 0 0 0 0 0 0 E0 0 0 0 0 0 0 false E0 k E0 E0 0 0 E0 E0 E0 E0 E0 E0 E0 E0 0 0 E0 E0 E0 E0 E0 E0 E0 E0 false 0 E0 E0 E0 E0 E0 E0 E0 E0 false 0
 else
 if (cop .eql a 5) then
 (g53 e f g).bind fun a2=>
 if a2 then
 (g54 l).bind fun a3=>
 YL Zr a b c d h i m e f g l y Z aa ab ac ad ae af ag ah ai aj ak al am an ao ap aq ar aZ au av aw ax ay az a0 a1 x k j z n o p q r s t u v w A C D E G H J K L M O P Q R T U V W X Y a b c d 0 i 0 e f g l false 0 0 0 0 0 0 0 0 0 0 0 0 0 0 0 0 0 0 0 0 E0 0 0 0 0 0 0 false E0 E0 E0 E0 0 0 E0 E0 E0 E0 E0 E0 E0 E0 0 0 E0 E0 E0 E0 E0 E0 E0 E0 false 0 E0 E0 E0 E0 E0 E0 E0 E0 a3 0
 else
 YL Zr a b c d h i m e f g l y Z aa ab ac ad ae af ag ah ai aj ak al am an ao ap aq ar aZ au av aw ax ay az a0 a1 x k j z n o p q r s t u v w A C D E G H J K L M O P Q R T U V W X Y a b c d 0 i 0 e f g l false 0 0 0 0 0 0 0 0 0 0 0 0 0 0 0 0 0 0 0 0 E0 0 0 0 0 0 0 false E0 E0 E0 E0 0 0 E0 E0 E0 E0 E0 E0 E0 E0 0 0 E0 E0 E0 E0 E0 E0 E0 E0 false 0 E0 E0 E0 E0 E0 E0 E0 E0 false 0
 else
 if (cop .eql a 6) then
 (g53 e f g).bind fun a2=>
 if a2 then
 (g55 x false).bind fun a3=>
 if a3 then
 YL Zr a b c d h i m e f g l y Z aa ab ac ad ae af ag ah ai aj ak al am an ao ap aq ar aZ au av aw ax ay az a0 a1 x k j z n o p q r s t u v w A C D E G H J K L M O P Q R T U V W X Y a b c d 0 i 0 e f g 0 false 0 0 0 0 0 0 0 0 0 0 0 0 0 0 0 0 0 0 0 0 E0 0 0 0 0 0 0 false x E0 E0 E0 0 0 E0 E0 E0 E0 E0 E0 E0 E0 0 0 E0 E0 E0 E0 E0 E0 E0 E0 false 0 E0 E0 E0 E0 E0 E0 E0 E0 (cop .leq (List.length x:Int) 64) 0
 else
 YL Zr a b c d h i m e f g l y Z aa ab ac ad ae af ag ah ai aj ak al am an ao ap aq ar aZ au av aw ax ay az a0 a1 x k j z n o p q r s t u v w A C D E G H J K L M O P Q R T U V W X Y a b c d 0 i 0 e f g 0 false 0 0 0 0 0 0 0 0 0 0 0 0 0 0 0 0 0 0 0 0 E0 0 0 0 0 0 0 false x E0 E0 E0 0 0 E0 E0 E0 E0 E0 E0 E0 E0 0 0 E0 E0 E0 E0 E0 E0 E0 E0 false 0 E0 E0 E0 E0 E0 E0 E0 E0 false 0
 else
 YL Zr a b c d h i m e f g l y Z aa ab ac ad ae af ag ah ai aj ak al am an ao ap aq ar aZ au av aw ax ay az a0 a1 x k j z n o p q r s t u v w A C D E G H J K L M O P Q R T U V W X Y a b c d 0 i 0 e f g 0 false 0 0 0 0 0 0 0 0 0 0 0 0 0 0 0 0 0 0 0 0 E0 0 0 0 0 0 0 false x E0 E0 E0 0 0 E0 E0 E0 E0 E0 E0 E0 E0 0 0 E0 E0 E0 E0 E0 E0 E0 E0 false 0 E0 E0 E0 E0 E0 E0 E0 E0 false 0
 else
 if (cop .eql a 12) then
 (g50 h).bind fun a2=>
 if a2 then
 (g56 j).bind fun a3=>
 YL Zr a b c d h i m e f g l y Z aa ab ac ad ae af ag ah ai aj ak al am an ao ap aq ar aZ au av aw ax ay az a0 a1 x k j z n o p q r s t u v w A C D E G H J K L M O P Q R T U V W X Y a b c d h 0 0 0 0 0 0 false 0 0 0 0 0 0 0 0 0 0 0 0 0 0 0 0 0 0 0 0 E0 0 0 0 0 0 0 false E0 E0 j E0 0 0 E0 E0 E0 E0 E0 E0 E0 E0 0 0 E0 E0 E0 E0 E0 E0 E0 E0 false 0 E0 E0 E0 E0 E0 E0 E0 E0 a3 0
 else
 YL Zr a b c d h i m e f g l y Z aa ab ac ad ae af ag ah ai aj ak al am an ao ap aq ar aZ au av aw ax ay az a0 a1 x k j z n o p q r s t u v w A C D E G H J K L M O P Q R T U V W X Y a b c d h 0 0 0 0 0 0 false 0 0 0 0 0 0 0 0 0 0 0 0 0 0 0 0 0 0 0 0 E0 0 0 0 0 0 0 false E0 E0 j E0 0 0 E0 E0 E0 E0 E0 E0 E0 E0 0 0 E0 E0 E0 E0 E0 E0 E0 E0 false 0 E0 E0 E0 E0 E0 E0 E0 E0 false 0
 else
 if (cop .eql a 13) then
 (g50 h).bind fun a2=>
 if a2 then
 (g57 A C D E G H J K L M O P Q R T U V W X Y).bind fun a3=>
 YL Zr a b c d h i m e f g l y Z aa ab ac ad ae af ag ah ai aj ak al am an ao ap aq ar aZ au av aw ax ay az a0 a1 x k j z n o p q r s t u v w A C D E G H J K L M O P Q R T U V W X Y a b c d h 0 0 0 0 0 0 false 0 0 0 0 0 0 0 0 0 0 0 0 0 0 0 0 0 0 0 0 E0 0 0 0 0 0 0 false E0 E0 E0 E0 0 0 E0 E0 E0 E0 E0 E0 E0 E0 A C D E G H J K L M O P Q R T U V W X Y a3 0
 else
 YL Zr a b c d h i m e f g l y Z aa ab ac ad ae af ag ah ai aj ak al am an ao ap aq ar aZ au av aw ax ay az a0 a1 x k j z n o p q r s t u v w A C D E G H J K L M O P Q R T U V W X Y a b c d h 0 0 0 0 0 0 false 0 0 0 0 0 0 0 0 0 0 0 0 0 0 0 0 0 0 0 0 E0 0 0 0 0 0 0 false E0 E0 E0 E0 0 0 E0 E0 E0 E0 E0 E0 E0 E0 A C D E G H J K L M O P Q R T U V W X Y false 0
 else
 if (cop .eql a 14) then
 (g50 h).bind fun a2=>
 if a2 then
 (g50 n).bind fun a3=>
 if a3 then
 (g56 j).bind fun a7=>
 if a7 then
 (g58 o p q).bind fun a8=>
 if a8 then
 (g59 r s t u v w).bind fun a9=>
 YL Zr a b c d h i m e f g l y Z aa ab ac ad ae af ag ah ai aj ak al am an ao ap aq ar aZ au av aw ax ay az a0 a1 x k j z n o p q r s t u v w A C D E G H J K L M O P Q R T U V W X Y a b c d h 0 0 0 0 0 0 false 0 0 0 0 0 0 0 0 0 0 0 0 0 0 0 0 0 0 0 0 E0 0 0 0 0 0 0 false E0 E0 j E0 n o p q r s t u v w 0 0 E0 E0 E0 E0 E0 E0 E0 E0 false 0 E0 E0 E0 E0 E0 E0 E0 E0 a9 0
 else
 YL Zr a b c d h i m e f g l y Z aa ab ac ad ae af ag ah ai aj ak al am an ao ap aq ar aZ au av aw ax ay az a0 a1 x k j z n o p q r s t u v w A C D E G H J K L M O P Q R T U V W X Y a b c d h 0 0 0 0 0 0 false 0 0 0 0 0 0 0 0 0 0 0 0 0 0 0 0 0 0 0 0 E0 0 0 0 0 0 0 false E0 E0 j E0 n o p q r s t u v w 0 0 E0 E0 E0 E0 E0 E0 E0 E0 false 0 E0 E0 E0 E0 E0 E0 E0 E0 false 0
 else
 YL Zr a b c d h i m e f g l y Z aa ab ac ad ae af ag ah ai aj ak al am an ao ap aq ar aZ au av aw ax ay az a0 a1 x k j z n o p q r s t u v w A C D E G H J K L M O P Q R T U V W X Y a b c d h 0 0 0 0 0 0 false 0 0 0 0 0 0 0 0 0 0 0 0 0 0 0 0 0 0 0 0 E0 0 0 0 0 0 0 false E0 E0 j E0 n o p q r s t u v w 0 0 E0 E0 E0 E0 E0 E0 E0 E0 false 0 E0 E0 E0 E0 E0 E0 E0 E0 false 0
 else
 YL Zr a b c d h i m e f g l y Z aa ab ac ad ae af ag ah ai aj ak al am an ao ap aq ar aZ au av aw ax ay az a0 a1 x k j z n o p q r s t u v w A C D E G H J K L M O P Q R T U V W X Y a b c d h 0 0 0 0 0 0 false 0 0 0 0 0 0 0 0 0 0 0 0 0 0 0 0 0 0 0 0 E0 0 0 0 0 0 0 false E0 E0 j E0 n o p q r s t u v w 0 0 E0 E0 E0 E0 E0 E0 E0 E0 false 0 E0 E0 E0 E0 E0 E0 E0 E0 false 0
 else
 YL Zr a b c d h i m e f g l y Z aa ab ac ad ae af ag ah ai aj ak al am an ao ap aq ar aZ au av aw ax ay az a0 a1 x k j z n o p q r s t u v w A C D E G H J K L M O P Q R T U V W X Y a b c d h 0 0 0 0 0 0 false 0 0 0 0 0 0 0 0 0 0 0 0 0 0 0 0 0 0 0 0 E0 0 0 0 0 0 0 false E0 E0 j E0 n o p q r s t u v w 0 0 E0 E0 E0 E0 E0 E0 E0 E0 false 0 E0 E0 E0 E0 E0 E0 E0 E0 false 0
 else
 if (cop .eql a 15) then
 (g50 h).bind fun a2=>
 YL Zr a b c d h i m e f g l y Z aa ab ac ad ae af ag ah ai aj ak al am an ao ap aq ar aZ au av aw ax ay az a0 a1 x k j z n o p q r s t u v w A C D E G H J K L M O P Q R T U V W X Y a b c d h 0 0 0 0 0 0 false 0 0 0 0 0 0 0 0 0 0 0 0 0 0 0 0 0 0 0 0 E0 0 0 0 0 0 0 false E0 E0 E0 E0 0 0 E0 E0 E0 E0 E0 E0 E0 E0 0 0 E0 E0 E0 E0 E0 E0 E0 E0 false 0 E0 E0 E0 E0 E0 E0 E0 E0 a2 0
 else
 if (cop .eql a 16) then
 (g50 h).bind fun a2=>
 YL Zr a b c d h i m e f g l y Z aa ab ac ad ae af ag ah ai aj ak al am an ao ap aq ar aZ au av aw ax ay az a0 a1 x k j z n o p q r s t u v w A C D E G H J K L M O P Q R T U V W X Y a b c d h 0 0 0 0 0 0 false 0 0 0 0 0 0 0 0 0 0 0 0 0 0 0 0 0 0 0 0 E0 0 0 0 0 0 0 false E0 E0 E0 E0 0 0 E0 E0 E0 E0 E0 E0 E0 E0 0 0 E0 E0 E0 E0 E0 E0 E0 E0 false 0 E0 E0 E0 E0 E0 E0 E0 E0 a2 0
 else
 if (cop .eql a 17) then
 (g56 j).bind fun a2=>
 if a2 then
 (g60 z).bind fun a3=>
 YL Zr a b c d h i m e f g l y Z aa ab ac ad ae af ag ah ai aj ak al am an ao ap aq ar aZ au av aw ax ay az a0 a1 x k j z n o p q r s t u v w A C D E G H J K L M O P Q R T U V W X Y a b c d 0 0 0 0 0 0 0 false 0 0 0 0 0 0 0 0 0 0 0 0 0 0 0 0 0 0 0 0 E0 0 0 0 0 0 0 false E0 E0 j z 0 0 E0 E0 E0 E0 E0 E0 E0 E0 0 0 E0 E0 E0 E0 E0 E0 E0 E0 false 0 E0 E0 E0 E0 E0 E0 E0 E0 a3 0
 else
 YL Zr a b c d h i m e f g l y Z aa ab ac ad ae af ag ah ai aj ak al am an ao ap aq ar aZ au av aw ax ay az a0 a1 x k j z n o p q r s t u v w A C D E G H J K L M O P Q R T U V W X Y a b c d 0 0 0 0 0 0 0 false 0 0 0 0 0 0 0 0 0 0 0 0 0 0 0 0 0 0 0 0 E0 0 0 0 0 0 0 false E0 E0 j z 0 0 E0 E0 E0 E0 E0 E0 E0 E0 0 0 E0 E0 E0 E0 E0 E0 E0 E0 false 0 E0 E0 E0 E0 E0 E0 E0 E0 false 0
 else
 (g53 e f g).bind fun a2=>
 YL Zr a b c d h i m e f g l y Z aa ab ac ad ae af ag ah ai aj ak al am an ao ap aq ar aZ au av aw ax ay az a0 a1 x k j z n o p q r s t u v w A C D E G H J K L M O P Q R T U V W X Y a b c d 0 i 0 e f g 0 false 0 0 0 0 0 0 0 0 0 0 0 0 0 0 0 0 0 0 0 0 E0 0 0 0 0 0 0 false E0 E0 E0 E0 0 0 E0 E0 E0 E0 E0 E0 E0 E0 0 0 E0 E0 E0 E0 E0 E0 E0 E0 false 0 E0 E0 E0 E0 E0 E0 E0 E0 a2 0):=by kernel_rfl
end Go.Proofs.YtjldbnbdcmfbmaaGreat
