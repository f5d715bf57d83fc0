/- Functions of the program, as what they compute. -/
import Derived.Test.YtjldbnbdcmfbmaaGreatGW8
namespace Go.Proofs.YtjldbnbdcmfbmaaGreat
open Go Go.AM
set_option linter.unusedVariables false
set_option maxRecDepth 100000
noncomputable def F32:Fn:=⟨44,[2,3],[],[],0,[],[],Tryz.f32,[.c (.int .i64)],[.c (.own false 89),.c (.bool)],[]⟩
theorem ZA8:F32.S.Ok Tryz.prog 32:=F32.ok Tryz.func32 (by kernel_rfl) trivial
noncomputable def g32 (a:Int):Option (LL×Bool):=F32.S.g [.i a]
theorem Y4 (a:Int):g32 a =
 (if (cop .eql a 1) then
 some (((E0++[[AV.val (.int .i64 0)]])++[[AV.val (.int .i64 1)]]),true)
 else
 if (cop .eql a 2) then
 some ((((((E0++[[AV.val (.int .i64 0)]])++[[AV.val (.int .i64 2)]])++[[AV.val (.int .i64 3)]])++[[AV.val (.int .i64 4)]])++[[AV.val (.int .i64 5)]]),true)
 else
 if (cop .eql a 3) then
 some (((E0++[[AV.val (.int .i64 0)]])++[[AV.val (.int .i64 2)]]),true)
 else
 if (cop .eql a 7) then
 some (((E0++[[AV.val (.int .i64 0)]])++[[AV.val (.int .i64 2)]]),true)
 else
 if (cop .eql a 8) then
 some (((E0++[[AV.val (.int .i64 0)]])++[[AV.val (.int .i64 2)]]),true)
 else
 if (cop .eql a 9) then
 some (((E0++[[AV.val (.int .i64 0)]])++[[AV.val (.int .i64 2)]]),true)
 else
 if (cop .eql a 10) then
 some (((E0++[[AV.val (.int .i64 0)]])++[[AV.val (.int .i64 2)]]),true)
 else
 if (cop .eql a 11) then
 some (((E0++[[AV.val (.int .i64 0)]])++[[AV.val (.int .i64 2)]]),true)
 else
 if (cop .eql a 4) then
 some (((((E0++[[AV.val (.int .i64 0)]])++[[AV.val (.int .i64 2)]])++[[AV.val (.int .i64 6)]])++[[AV.val (.int .i64 5)]]),true)
 else
 if (cop .eql a 5) then
 some ((((E0++[[AV.val (.int .i64 0)]])++[[AV.val (.int .i64 2)]])++[[AV.val (.int .i64 3)]]),true)
 else
 if (cop .eql a 6) then
 some ((((E0++[[AV.val (.int .i64 0)]])++[[AV.val (.int .i64 2)]])++[[AV.val (.int .i64 7)]]),true)
 else
 if (cop .eql a 12) then
 some (((E0++[[AV.val (.int .i64 8)]])++[[AV.val (.int .i64 9)]]),true)
 else
 if (cop .eql a 13) then
 some (((E0++[[AV.val (.int .i64 8)]])++[[AV.val (.int .i64 10)]]),true)
 else
 if (cop .eql a 14) then
 some ((((((E0++[[AV.val (.int .i64 8)]])++[[AV.val (.int .i64 11)]])++[[AV.val (.int .i64 9)]])++[[AV.val (.int .i64 12)]])++[[AV.val (.int .i64 13)]]),true)
 else
 if (cop .eql a 15) then
 some ((E0++[[AV.val (.int .i64 8)]]),true)
 else
 if (cop .eql a 16) then
 some ((E0++[[AV.val (.int .i64 8)]]),true)
 else
 if (cop .eql a 17) then
 some (((E0++[[AV.val (.int .i64 9)]])++[[AV.val (.int .i64 14)]]),true)
 else
 some (E0,false)):=by kernel_rfl
noncomputable def F33:Fn:=⟨9,[2],[],[],0,[],[],Tryz.f33,[.c (.int .i64)],[.c (.bool)],[]⟩
theorem ZAU:F33.S.Ok Tryz.prog 33:=F33.ok Tryz.func33 (by kernel_rfl) trivial
noncomputable def g33 (a:Int):Option (Bool):=F33.S.g [.i a]
theorem ZwU (a:Int):g33 a =
 (if (cop .geq a 0) then
 some ((cop .leq a 1073741824))
 else
 some (false)):=by kernel_rfl
noncomputable def F34:Fn:=⟨9,[2],[],[],0,[],[],Tryz.f34,[.c (.int .i64)],[.c (.bool)],[]⟩
theorem ZsG:F34.S.Ok Tryz.prog 34:=F34.ok Tryz.func34 (by kernel_rfl) trivial
noncomputable def g34 (a:Int):Option (Bool):=F34.S.g [.i a]
theorem ZxC (a:Int):g34 a =
 (if (cop .geq a 0) then
 some ((cop .lss a 32))
 else
 some (false)):=by kernel_rfl
noncomputable def F89:Fn:=⟨9,[2],[],[],0,[],[],Tryz.f89,[.c (.int .i64)],[.c (.bool)],[]⟩
theorem ZyU:F89.S.Ok Tryz.prog 89:=F89.ok Tryz.func89 (by kernel_rfl) trivial
noncomputable def g89 (a:Int):Option (Bool):=F89.S.g [.i a]
theorem Zvp (a:Int):g89 a =
 (if (cop .geq a 0) then
 some ((cop .lss a 16))
 else
 some (false)):=by kernel_rfl
noncomputable def F99:Fn:=⟨31,[2],[],[],0,[],[],Tryz.f99,[.agg [.int .i64,.int .i64,.int .i64]],[.c (.bool)],[]⟩
theorem ZyE:F99.S.Ok Tryz.prog 99:=F99.ok Tryz.func99 (by kernel_rfl) trivial
noncomputable def g99 (a b c:Int):Option (Bool):=F99.S.g [.i a,.i b,.i c]
theorem Zxp (a b c:Int):g99 a b c =
 (if (cop .geq a 0) then
 if (cop .lss a 32) then
 if (cop .geq b 1) then
 if (cop .leq b 1073741824) then
 if (cop .geq c 0) then
 some ((cop .lss c 8))
 else
 some (false)
 else
 some (false)
 else
 some (false)
 else
 some (false)
 else
 some (false)):=by kernel_rfl
noncomputable def F91:Fn:=⟨10,[2],[],[],0,[],[],Tryz.f91,[.agg [.int .i64,.int .i64,.int .i64]],[.c (.bool)],[(99,F99.S)]⟩
theorem ZyF:F91.S.Ok Tryz.prog 91:=F91.ok Tryz.func91 (by kernel_rfl) ⟨ZyE,trivial⟩
noncomputable def g91 (a b c:Int):Option (Bool):=F91.S.g [.i a,.i b,.i c]
theorem Zw5 (b c a:Int):g91 b c a =
 ((g99 b c a).bind fun d=>
 if d then
 some ((cop .eql a 0))
 else
 some (false)):=by kernel_rfl
noncomputable def Zu9:Fn:=⟨26,[4],[(4,[(0,.c (.slice 3)),(1,.c (.slice 3)),(12,.c (.int .i64)),(13,.c (.int .i64))])],[],0,[],[],Tryz.f196,[.c (.slice 3),.c (.slice 3)],[.c (.bool)],[]⟩
theorem ZCB:Zu9.S.Ok Tryz.prog 196:=Zu9.ok Tryz.func196 (by kernel_rfl) trivial
noncomputable def ZBL (a b:LL):Option (Bool):=Zu9.S.g [.l a,.l b]
noncomputable def ZcD (k:Nat) (a b:LL) (c d:Int):Option (Bool):=Zu9.lp [1,0] 0 r0 k [.l a,.l b,.i c,.i d]
theorem Zgx (k:Nat) (b c:LL) (d a:Int):ZcD (k+1) b c d a =
 (if (cop .lss a d) then
 Zm b a [.int .i64,.int .i64,.int .i64] fun (e:Int×Int×Int)=>
 Zm c a [.int .i64,.int .i64,.int .i64] fun (f:Int×Int×Int)=>
 if (!((cop .eql e.1 f.1)&&((cop .eql e.2.1 f.2.1)&&((cop .eql e.2.2 f.2.2)&&true)))) then
 some (false)
 else
 ZcD k b c d (iop .add .i64 a 1)
 else
 some (true)):=by kernel_rfl
theorem Ztt (a b:LL):ZBL a b =
 (if (cop .neq (List.length a:Int) (List.length b:Int)) then
 some (false)
 else
 ZcD Zr a b (List.length a:Int) 0):=by kernel_rfl
noncomputable def ZuH:Fn:=⟨24,[4],[],[],0,[],[],Tryz.f164,[.agg hs16,.agg hs16],[.c (.bool)],[(196,Zu9.S)]⟩
theorem Zr5:ZuH.S.Ok Tryz.prog 164:=ZuH.ok Tryz.func164 (by kernel_rfl) ⟨ZCB,trivial⟩
noncomputable def ZtB (a c d:Int) (e:LL) (f h j k m n:Int) (o:Bool) (p q r:Int) (s:LL) (t u v w x y:Int) (z:Bool):Option (Bool):=ZuH.S.g [.i a,.i c,.i d,.l e,.i f,.i h,.i j,.i k,.i m,.i n,.b o,.i p,.i q,.i r,.l s,.i t,.i u,.i v,.i w,.i x,.i y,.b z]
theorem Zue (a b c:Int) (d:LL) (e f g h i j:Int) (k:Bool) (l m n:Int) (o:LL) (p q r s t u:Int) (v:Bool):ZtB a b c d e f g h i j k l m n o p q r s t u v =
 (if ((cop .eql a l)&&((cop .eql b m)&&((cop .eql c n)&&true))) then
 if ((cop .eql e p)&&((cop .eql f q)&&((cop .eql g r)&&((cop .eql h s)&&((cop .eql i t)&&((cop .eql j u)&&((k == v)&&true))))))) then
 (ZBL d o).bind fun w=>
 some (w)
 else
 some (false)
 else
 some (false)):=by kernel_rfl
noncomputable def Zzh:Fn:=⟨38,[4],[],[],0,[],[],Tryz.f197,[.c (.int .i64),.c (.int .i64)],[.c (.bool)],[]⟩
theorem ZzL:Zzh.S.Ok Tryz.prog 197:=Zzh.ok Tryz.func197 (by kernel_rfl) trivial
noncomputable def ZBd (a b:Int):Option (Bool):=Zzh.S.g [.i a,.i b]
theorem ZtW (b a:Int):ZBd b a =
 (if (cop .eql b 1) then
 if (cop .geq a 6) then
 some ((cop .leq a 40))
 else
 some (false)
 else
 if (cop .eql b 2) then
 if (cop .geq a 12) then
 some ((cop .leq a 40))
 else
 some (false)
 else
 if (cop .eql b 3) then
 some ((cop .eql a 12))
 else
 if (cop .eql b 4) then
 some ((cop .eql a 6))
 else
 if (cop .eql b 5) then
 some ((cop .eql a 10))
 else
 if (cop .eql b 6) then
 some ((cop .eql a 16))
 else
 some (false)):=by kernel_rfl
noncomputable def Zy3:Fn:=⟨8,[2],[],[],0,[],[],Tryz.f199,[.agg hs27],[.agg [.int .i64,.int .i64]],[]⟩
theorem ZzQ:Zy3.S.Ok Tryz.prog 199:=Zy3.ok Tryz.func199 (by kernel_rfl) trivial
noncomputable def ZBi (a c d e f h:Int) (j:Bool):Option (Int×Int):=Zy3.S.g [.i a,.i c,.i d,.i e,.i f,.i h,.b j]
theorem Zta (c a b d e f:Int) (g:Bool):ZBi c a b d e f g =
 (some (a,b)):=by kernel_rfl
noncomputable def ZyT:Fn:=⟨32,[2],[],[],0,[],[],Tryz.f198,[.agg [.int .i64,.int .i64]],[.c (.bool)],[]⟩
theorem ZA6:ZyT.S.Ok Tryz.prog 198:=ZyT.ok Tryz.func198 (by kernel_rfl) trivial
noncomputable def ZBy (a b:Int):Option (Bool):=ZyT.S.g [.i a,.i b]
theorem Zud (b a:Int):ZBy b a =
 (if (cop .lss a 6) then
 some (false)
 else
 if (cop .gtr a 40) then
 some (false)
 else
 if (cop .lss b 0) then
 some (false)
 else
 ZE ((0:Int)≤a)<|
 ZE (((iop .shl .i64 1 a):Int)≠0)<|
 if (cop .eql (iop .rem .i64 b (iop .shl .i64 1 a)) 0) then
 some ((cop .leq b (iop .sub .i64 1099511627776 (iop .shl .i64 1 a))))
 else
 some (false)):=by kernel_rfl
noncomputable def ZyJ:Fn:=⟨22,[4],[],[],0,[],[],Tryz.f200,[.c (.int .i64),.c (.int .i64)],[.c (.bool)],[]⟩
theorem ZzC:ZyJ.S.Ok Tryz.prog 200:=ZyJ.ok Tryz.func200 (by kernel_rfl) trivial
noncomputable def ZA7 (a b:Int):Option (Bool):=ZyJ.S.g [.i a,.i b]
theorem ZsS (b a:Int):ZA7 b a =
 (if (cop .eql b 32) then
 if (cop .geq a 0) then
 some ((cop .leq a 1))
 else
 some (false)
 else
 if (cop .eql b 39) then
 if (cop .geq a 0) then
 some ((cop .leq a 2))
 else
 some (false)
 else
 some (false)):=by kernel_rfl
noncomputable def Zuo:Fn:=⟨55,[2],[],[],0,[],[],Tryz.f166,[.agg hs27],[.c (.bool)],[(197,Zzh.S),(199,Zy3.S),(198,ZyT.S),(200,ZyJ.S)]⟩
theorem Zt8:Zuo.S.Ok Tryz.prog 166:=Zuo.ok Tryz.func166 (by kernel_rfl) ⟨ZzL,⟨ZzQ,⟨ZA6,⟨ZzC,trivial⟩⟩⟩⟩
noncomputable def Zyw (a c d e f h:Int) (j:Bool):Option (Bool):=Zuo.S.g [.i a,.i c,.i d,.i e,.i f,.i h,.b j]
theorem ZrU (a g f b c d:Int) (e:Bool):Zyw a g f b c d e =
 ((ZBd a f).bind fun i=>
 if (!i) then
 some (false)
 else
 (ZBi a g f b c d e).bind fun h=>
 (ZBy h.1 h.2).bind fun j=>
 if (!j) then
 some (false)
 else
 if (cop .lss b 0) then
 some (false)
 else
 if (cop .gtr b 7) then
 some (false)
 else
 if (cop .eql a 3) then
 (ZA7 c d).bind fun k=>
 if (!k) then
 some (false)
 else
 if (!e) then
 some (true)
 else
 if (cop .eql a 1) then
 some (true)
 else
 some ((cop .eql a 2))
 else
 if (cop .neq c 0) then
 some (false)
 else
 if (cop .neq d 0) then
 some (false)
 else
 if (!e) then
 some (true)
 else
 if (cop .eql a 1) then
 some (true)
 else
 some ((cop .eql a 2))):=by kernel_rfl
noncomputable def Zye:Fn:=⟨19,[4],[(2,[(0,.c (.slice 3)),(3,.box [.int .i64,.int .i64,.int .i64]),(7,.c (.int .i64)),(8,.c (.int .i64))])],[],0,[],[],Tryz.f201,[.c (.slice 3),.agg [.int .i64,.int .i64,.int .i64]],[.c (.int .i64)],[]⟩
theorem ZCj:Zye.S.Ok Tryz.prog 201:=Zye.ok Tryz.func201 (by kernel_rfl) trivial
noncomputable def ZDo (a:LL) (b c d:Int):Option (Int):=Zye.S.g [.l a,.i b,.i c,.i d]
noncomputable def Zho (k:Nat) (a:LL) (b c d e f:Int):Option (Int):=Zye.lp [0] 0 r0 k [.l a,.i b,.i c,.i d,.i e,.i f]
theorem Zic (k:Nat) (b:LL) (c d e f a:Int):Zho (k+1) b c d e f a =
 (if (cop .lss a f) then
 Zm b a [.int .i64,.int .i64,.int .i64] fun (g:Int×Int×Int)=>
 if ((cop .eql c g.1)&&((cop .eql d g.2.1)&&((cop .eql e g.2.2)&&true))) then
 some (a)
 else
 Zho k b c d e f (iop .add .i64 a 1)
 else
 some ((-1))):=by kernel_rfl
theorem ZtQ (a:LL) (b c d:Int):ZDo a b c d =
 (Zho Zr a b c d (List.length a:Int) 0):=by kernel_rfl
noncomputable def ZyN:Fn:=⟨9,[4],[],[],0,[],[],Tryz.f167,[.c (.slice 3),.agg [.int .i64,.int .i64,.int .i64]],[.c (.bool)],[(201,Zye.S)]⟩
theorem ZCH:ZyN.S.Ok Tryz.prog 167:=ZyN.ok Tryz.func167 (by kernel_rfl) ⟨ZCj,trivial⟩
noncomputable def ZBa (a:LL) (b c d:Int):Option (Bool):=ZyN.S.g [.l a,.i b,.i c,.i d]
theorem Zr4 (a:LL) (b c d:Int):ZBa a b c d =
 ((ZDo a b c d).bind fun e=>
 some ((cop .geq e 0))):=by kernel_rfl
noncomputable def F95:Fn:=⟨47,[2],[(4,[(1,.box hs16),(22,.c (.slice 3)),(23,.c (.int .i64)),(24,.c (.int .i64))])],[],0,[],[],Tryz.f95,[.agg hs16],[.c (.bool)],[(99,F99.S),(166,Zuo.S),(167,ZyN.S)]⟩
theorem Zur:F95.S.Ok Tryz.prog 95:=F95.ok Tryz.func95 (by kernel_rfl) ⟨ZyE,⟨Zt8,⟨ZCH,trivial⟩⟩⟩
noncomputable def g95 (a c d:Int) (e:LL) (f h j k m n:Int) (o:Bool):Option (Bool):=F95.S.g [.i a,.i c,.i d,.l e,.i f,.i h,.i j,.i k,.i m,.i n,.b o]
noncomputable def ZpU (k:Nat) (a c d:Int) (e:LL) (f g h j m n:Int) (o:Bool) (p:LL) (q r:Int):Option (Bool):=F95.lp [0,1,0,1,1,0] 0 r0 k [.i a,.i c,.i d,.l e,.i f,.i g,.i h,.i j,.i m,.i n,.b o,.l p,.i q,.i r]
theorem Zkd (k:Nat) (d e f:Int) (c:LL) (i j l m n o:Int) (p:Bool) (g:LL) (h b:Int):ZpU (k+1) d e f c i j l m n o p g h b =
 (if (cop .lss b h) then
 Zm g b [.int .i64,.int .i64,.int .i64] fun (a:Int×Int×Int)=>
 (g99 a.1 a.2.1 a.2.2).bind fun q=>
 if (!q) then
 some (false)
 else
 if ((cop .eql a.1 d)&&((cop .eql a.2.1 e)&&((cop .eql a.2.2 f)&&true))) then
 some (false)
 else
 ZE ((0:Int)≤b)<|
 ZE ((b:Int)≤(List.length c:Int))<|
 (ZBa (List.take (Int.toNat b) c) a.1 a.2.1 a.2.2).bind fun r=>
 if r then
 some (false)
 else
 ZpU k d e f c i j l m n o p g h (iop .add .i64 b 1)
 else
 some (true)):=by kernel_rfl
theorem ZxH (b c d:Int) (a:LL) (e f g h i j:Int) (k:Bool):g95 b c d a e f g h i j k =
 ((g99 b c d).bind fun l=>
 if (!l) then
 some (false)
 else
 (Zyw e f g h i j k).bind fun m=>
 if (!m) then
 some (false)
 else
 if (cop .gtr (List.length a:Int) 8) then
 some (false)
 else
 ZpU Zr b c d a e f g h i j k a (List.length a:Int) 0):=by kernel_rfl
noncomputable def F90:Fn:=⟨46,[2],[],[],0,[],[],Tryz.f90,[.agg hs6],[.c (.bool)],[(91,F91.S),(89,F89.S),(164,ZuH.S),(95,F95.S)]⟩
theorem ZCY:F90.S.Ok Tryz.prog 90:=F90.ok Tryz.func90 (by kernel_rfl) ⟨ZyF,⟨ZyU,⟨Zr5,⟨Zur,trivial⟩⟩⟩⟩
noncomputable def g90 (a c d e f h j k m n o p q r s t u v w x:Int) (y:LL) (z A C D E G:Int) (H:Bool):Option (Bool):=F90.S.g [.i a,.i c,.i d,.i e,.i f,.i h,.i j,.i k,.i m,.i n,.i o,.i p,.i q,.i r,.i s,.i t,.i u,.i v,.i w,.i x,.l y,.i z,.i A,.i C,.i D,.i E,.i G,.b H]
theorem ZxA (o p q b s t u v w x y z A C D r n c d e:Int) (f:LL) (g h i j k l:Int) (m:Bool):g90 o p q b s t u v w x y z A C D r n c d e f g h i j k l m =
 ((g91 o p q).bind fun E=>
 if (!E) then
 some (false)
 else
 if (cop .lss b 1) then
 some (false)
 else
 if (cop .gtr b 6) then
 some (false)
 else
 (g89 r).bind fun G=>
 if (!G) then
 some (false)
 else
 if (cop .neq n 32) then
 if (cop .neq n 39) then
 some (false)
 else
 if (cop .eql b 1) then
 (ZtB c d e f g h i j k l m 0 0 0 E0 0 0 0 0 0 0 false).bind fun a=>
 some (a)
 else
 (g95 c d e f g h i j k l m).bind fun a=>
 some (a)
 else
 if (cop .eql b 1) then
 (ZtB c d e f g h i j k l m 0 0 0 E0 0 0 0 0 0 0 false).bind fun a=>
 some (a)
 else
 (g95 c d e f g h i j k l m).bind fun a=>
 some (a)):=by kernel_rfl
noncomputable def F92:Fn:=⟨9,[2],[],[],0,[],[],Tryz.f92,[.c (.int .i64)],[.c (.bool)],[]⟩
theorem ZC2:F92.S.Ok Tryz.prog 92:=F92.ok Tryz.func92 (by kernel_rfl) trivial
noncomputable def g92 (a:Int):Option (Bool):=F92.S.g [.i a]
theorem Zw8 (a:Int):g92 a =
 (if (cop .geq a 0) then
 some ((cop .leq a 99))
 else
 some (false)):=by kernel_rfl
noncomputable def F96:Fn:=⟨9,[2],[],[],0,[],[],Tryz.f96,[.c (.int .i64)],[.c (.bool)],[]⟩
theorem ZDi:F96.S.Ok Tryz.prog 96:=F96.ok Tryz.func96 (by kernel_rfl) trivial
noncomputable def g96 (a:Int):Option (Bool):=F96.S.g [.i a]
theorem ZvQ (a:Int):g96 a =
 (if (cop .geq a 0) then
 some ((cop .lss a 64))
 else
 some (false)):=by kernel_rfl
noncomputable def Zxk:Fn:=⟨19,[4],[(2,[(0,.c (.slice 1)),(1,.c (.int .i64)),(7,.c (.int .i64)),(8,.c (.int .i64))])],[],0,[],[],Tryz.f202,[.c (.slice 1),.c (.int .i64)],[.c (.int .i64)],[]⟩
theorem ZAg:Zxk.S.Ok Tryz.prog 202:=Zxk.ok Tryz.func202 (by kernel_rfl) trivial
noncomputable def ZAE (a:LL) (b:Int):Option (Int):=Zxk.S.g [.l a,.i b]
noncomputable def Zef (k:Nat) (a:LL) (b c d:Int):Option (Int):=Zxk.lp [0] 0 r0 k [.l a,.i b,.i c,.i d]
theorem Zhl (k:Nat) (b:LL) (c d a:Int):Zef (k+1) b c d a =
 (if (cop .lss a d) then
 Zm b a [.int .i64] fun (e:Int)=>
 if (cop .eql c e) then
 some (a)
 else
 Zef k b c d (iop .add .i64 a 1)
 else
 some ((-1))):=by kernel_rfl
theorem Ztx (a:LL) (b:Int):ZAE a b =
 (Zef Zr a b (List.length a:Int) 0):=by kernel_rfl
noncomputable def Zyj:Fn:=⟨9,[4],[],[],0,[],[],Tryz.f170,[.c (.slice 1),.c (.int .i64)],[.c (.bool)],[(202,Zxk.S)]⟩
theorem ZAa:Zyj.S.Ok Tryz.prog 170:=Zyj.ok Tryz.func170 (by kernel_rfl) ⟨ZAg,trivial⟩
noncomputable def ZBH (a:LL) (b:Int):Option (Bool):=Zyj.S.g [.l a,.i b]
theorem Zsn (a:LL) (b:Int):ZBH a b =
 ((ZAE a b).bind fun c=>
 some ((cop .geq c 0))):=by kernel_rfl
noncomputable def Zyv:Fn:=⟨6,[2],[],[],0,[],[],Tryz.f171,[.c (.int .i64)],[.c (.bool)],[(34,F34.S)]⟩
theorem ZBP:Zyv.S.Ok Tryz.prog 171:=Zyv.ok Tryz.func171 (by kernel_rfl) ⟨ZsG,trivial⟩
noncomputable def ZCq (a:Int):Option (Bool):=Zyv.S.g [.i a]
theorem ZsM (a:Int):ZCq a =
 ((g34 a).bind fun b=>
 some ((!b))):=by kernel_rfl
noncomputable def ZaT:Fn:=⟨19,[4],[(2,[(0,.c (.slice 1)),(1,.clo 171 []),(7,.c (.int .i64)),(8,.c (.int .i64))])],[],0,[],[],Tryz.f169,[.c (.slice 1),.clo 171 []],[.c (.int .i64)],[(171,Zyv.S)]⟩
theorem Zm1:ZaT.S.Ok Tryz.prog 169:=ZaT.ok Tryz.func169 (by kernel_rfl) ⟨ZBP,trivial⟩
noncomputable def ZfN (a:LL):Option (Int):=ZaT.S.g [.l a]
noncomputable def KN (k:Nat) (a:LL) (b c:Int):Option (Int):=ZaT.lp [0] 0 r0 k [.l a,.i b,.i c]
theorem Zba (k:Nat) (b:LL) (c a:Int):KN (k+1) b c a =
 (if (cop .lss a c) then
 Zm b a [.int .i64] fun (d:Int)=>
 (ZCq d).bind fun e=>
 if e then
 some (a)
 else
 KN k b c (iop .add .i64 a 1)
 else
 some ((-1))):=by kernel_rfl
theorem ZiB (a:LL):ZfN a =
 (KN Zr a (List.length a:Int) 0):=by kernel_rfl
noncomputable def Zcj:Fn:=⟨9,[4],[],[],0,[],[],Tryz.f100,[.c (.slice 1),.clo 171 []],[.c (.bool)],[(169,ZaT.S)]⟩
theorem Zn6:Zcj.S.Ok Tryz.prog 100:=Zcj.ok Tryz.func100 (by kernel_rfl) ⟨Zm1,trivial⟩
noncomputable def Zgc (a:LL):Option (Bool):=Zcj.S.g [.l a]
theorem Zjj (a:LL):Zgc a =
 ((ZfN a).bind fun b=>
 some ((cop .geq b 0))):=by kernel_rfl
noncomputable def Zut:Fn:=⟨45,[2],[(4,[(1,.box [.int .i64,.slice 1,.slice 1]),(22,.c (.slice 1)),(23,.c (.int .i64)),(24,.c (.int .i64))])],[],0,[],[],Tryz.f105,[.agg [.int .i64,.slice 1,.slice 1]],[.c (.bool)],[(33,F33.S),(34,F34.S),(170,Zyj.S),(100,Zcj.S)]⟩
theorem ZxX:Zut.S.Ok Tryz.prog 105:=Zut.ok Tryz.func105 (by kernel_rfl) ⟨ZAU,⟨ZsG,⟨ZAa,⟨Zn6,trivial⟩⟩⟩⟩
noncomputable def ZxY (a:Int) (b c:LL):Option (Bool):=Zut.S.g [.i a,.l b,.l c]
noncomputable def Zc9 (k:Nat) (a:Int) (b c d:LL) (e f:Int):Option (Bool):=Zut.lp [0,1,1,1,0] 0 r0 k [.i a,.l b,.l c,.l d,.i e,.i f]
theorem Zha (k:Nat) (g:Int) (b d e:LL) (f a:Int):Zc9 (k+1) g b d e f a =
 (if (cop .lss a f) then
 Zm e a [.int .i64] fun (c:Int)=>
 (g34 c).bind fun h=>
 if (!h) then
 some (false)
 else
 ZE ((0:Int)≤a)<|
 ZE ((a:Int)≤(List.length b:Int))<|
 (ZBH (List.take (Int.toNat a) b) c).bind fun i=>
 if i then
 some (false)
 else
 Zc9 k g b d e f (iop .add .i64 a 1)
 else
 (Zgc d).bind fun c=>
 some ((!c))):=by kernel_rfl
theorem Zss (b:Int) (a c:LL):ZxY b a c =
 ((g33 b).bind fun d=>
 if (!d) then
 some (false)
 else
 if (cop .gtr (List.length a:Int) 32) then
 some (false)
 else
 if (cop .gtr (List.length c:Int) 16) then
 some (false)
 else
 Zc9 Zr b a c a (List.length a:Int) 0):=by kernel_rfl
noncomputable def ZwG:Fn:=⟨8,[2],[],[],0,[],[],Tryz.f225,[.agg hs11],[.c (.bool)],[]⟩
theorem Zu2:ZwG.S.Ok Tryz.prog 225:=ZwG.ok Tryz.func225 (by kernel_rfl) trivial
noncomputable def ZBf (a c d:Int) (e:LL) (f h j k m n:Int) (o:Bool) (p q r s:Int):Option (Bool):=ZwG.S.g [.i a,.i c,.i d,.l e,.i f,.i h,.i j,.i k,.i m,.i n,.b o,.i p,.i q,.i r,.i s]
theorem ZmG (a b c:Int) (d:LL) (e f g h i j:Int) (k:Bool) (l m n o:Int):ZBf a b c d e f g h i j k l m n o =
 (some (((cop .eql a 0)&&((cop .eql b 0)&&((cop .eql c 0)&&true))))):=by kernel_rfl
noncomputable def Zy6:Fn:=⟨43,[2],[],[],0,[],[],Tryz.f203,[.agg hs11],[.c (.bool)],[(225,ZwG.S),(164,ZuH.S),(95,F95.S),(99,F99.S)]⟩
theorem ZCb:Zy6.S.Ok Tryz.prog 203:=Zy6.ok Tryz.func203 (by kernel_rfl) ⟨Zu2,⟨Zr5,⟨Zur,⟨ZyE,trivial⟩⟩⟩⟩
noncomputable def ZBC (a c d:Int) (e:LL) (f h j k m n:Int) (o:Bool) (p q r s:Int):Option (Bool):=Zy6.S.g [.i a,.i c,.i d,.l e,.i f,.i h,.i j,.i k,.i m,.i n,.b o,.i p,.i q,.i r,.i s]
theorem Zsc (d e f:Int) (g:LL) (h i j k l m:Int) (n:Bool) (o b c a:Int):ZBC d e f g h i j k l m n o b c a =
 (if (cop .lss o 0) then
 some (false)
 else
 if (cop .gtr o 1073741824) then
 some (false)
 else
 (ZBf d e f g h i j k l m n o b c a).bind fun q=>
 if q then
 (ZtB d e f g h i j k l m n 0 0 0 E0 0 0 0 0 0 0 false).bind fun p=>
 if p then
 some (((cop .eql b 0)&&((cop .eql c 0)&&((cop .eql a 0)&&true))))
 else
 some (false)
 else
 (g95 d e f g h i j k l m n).bind fun p=>
 if p then
 if ((cop .eql b 0)&&((cop .eql c 0)&&((cop .eql a 0)&&true))) then
 some (true)
 else
 (g99 b c a).bind fun r=>
 if r then
 some ((cop .eql a 0))
 else
 some (false)
 else
 some (false)):=by kernel_rfl
noncomputable def ZvY:Fn:=⟨27,[4,5],[(2,[(3,.box [.int .i64,.int .i64,.int .i64]),(8,.c (.slice 15)),(9,.c (.int .i64)),(10,.c (.int .i64))])],[],0,[],[],Tryz.f204,[.c (.slice 15),.agg [.int .i64,.int .i64,.int .i64]],[.c (.int .i64),.c (.bool)],[(225,ZwG.S)]⟩
theorem ZBY:ZvY.S.Ok Tryz.prog 204:=ZvY.ok Tryz.func204 (by kernel_rfl) ⟨Zu2,trivial⟩
noncomputable def ZzM (a:LL) (b c d:Int):Option (Int×Bool):=ZvY.S.g [.l a,.i b,.i c,.i d]
noncomputable def ZcO (k:Nat) (a b c:Int) (d:LL) (e f:Int):Option (Int×Bool):=ZvY.lp [0] 0 r0 k [.i a,.i b,.i c,.l d,.i e,.i f]
theorem Zgs (k:Nat) (c d e:Int) (f:LL) (g b:Int):ZcO (k+1) c d e f g b =
 (if (cop .lss b g) then
 Zm f b hs11 fun (a:Qt21)=>
 (ZBf a.1 a.2.1 a.2.2.1 a.2.2.2.1 a.2.2.2.2.1 a.2.2.2.2.2.1 a.2.2.2.2.2.2.1 a.2.2.2.2.2.2.2.1 a.2.2.2.2.2.2.2.2.1 a.2.2.2.2.2.2.2.2.2.1 a.2.2.2.2.2.2.2.2.2.2.1 a.2.2.2.2.2.2.2.2.2.2.2.1 (d4 (d8 a)).1 (d4 (d8 a)).2.1 (d2 (d4 (d8 a)))).bind fun h=>
 if (!h) then
 if ((cop .eql a.1 c)&&((cop .eql a.2.1 d)&&((cop .eql a.2.2.1 e)&&true))) then
 some (b,true)
 else
 ZcO k c d e f g (iop .add .i64 b 1)
 else
 ZcO k c d e f g (iop .add .i64 b 1)
 else
 some (0,false)):=by kernel_rfl
theorem Zsw (a:LL) (b c d:Int):ZzM a b c d =
 (ZcO Zr b c d a (List.length a:Int) 0):=by kernel_rfl
noncomputable def Zxs:Fn:=⟨32,[2],[(4,[(0,.c (.slice 15)),(10,.c (.slice 15)),(11,.c (.int .i64)),(12,.c (.int .i64))])],[],0,[],[],Tryz.f172,[.c (.slice 15)],[.c (.bool)],[(203,Zy6.S),(204,ZvY.S)]⟩
theorem ZBb:Zxs.S.Ok Tryz.prog 172:=Zxs.ok Tryz.func172 (by kernel_rfl) ⟨ZCb,⟨ZBY,trivial⟩⟩
noncomputable def ZzY (a:LL):Option (Bool):=Zxs.S.g [.l a]
noncomputable def ZeF (k:Nat) (a b:LL) (c d:Int):Option (Bool):=Zxs.lp [1,0] 0 r0 k [.l a,.l b,.i c,.i d]
theorem ZhS (k:Nat) (c d:LL) (e b:Int):ZeF (k+1) c d e b =
 (if (cop .lss b e) then
 Zm d b hs11 fun (a:Qt21)=>
 (ZBC a.1 a.2.1 a.2.2.1 a.2.2.2.1 a.2.2.2.2.1 a.2.2.2.2.2.1 a.2.2.2.2.2.2.1 a.2.2.2.2.2.2.2.1 a.2.2.2.2.2.2.2.2.1 a.2.2.2.2.2.2.2.2.2.1 a.2.2.2.2.2.2.2.2.2.2.1 a.2.2.2.2.2.2.2.2.2.2.2.1 (d4 (d8 a)).1 (d4 (d8 a)).2.1 (d2 (d4 (d8 a)))).bind fun f=>
 if (!f) then
 some (false)
 else
 ZE ((0:Int)≤b)<|
 ZE ((b:Int)≤(List.length c:Int))<|
 (ZzM (List.take (Int.toNat b) c) a.1 a.2.1 a.2.2.1).bind fun g=>
 if g.2 then
 some (false)
 else
 ZeF k c d e (iop .add .i64 b 1)
 else
 some (true)):=by kernel_rfl
theorem ZtT (a:LL):ZzY a =
 (if (cop .gtr (List.length a:Int) 64) then
 some (false)
 else
 ZeF Zr a a (List.length a:Int) 0):=by kernel_rfl
noncomputable def Zzn:Fn:=⟨6,[2],[],[],0,[],[],Tryz.f206,[.agg hs6],[.c (.bool)],[(90,F90.S)]⟩
theorem ZAh:Zzn.S.Ok Tryz.prog 206:=Zzn.ok Tryz.func206 (by kernel_rfl) ⟨ZCY,trivial⟩
noncomputable def Zz1 (a c d e f h j k m n o p q r s t u v w x:Int) (y:LL) (z A C D E G:Int) (H:Bool):Option (Bool):=Zzn.S.g [.i a,.i c,.i d,.i e,.i f,.i h,.i j,.i k,.i m,.i n,.i o,.i p,.i q,.i r,.i s,.i t,.i u,.i v,.i w,.i x,.l y,.i z,.i A,.i C,.i D,.i E,.i G,.b H]
theorem Zr7 (a b c d e f g h i j k l m n o p q r s t:Int) (u:LL) (v w x y z A:Int) (C:Bool):Zz1 a b c d e f g h i j k l m n o p q r s t u v w x y z A C =
 ((g90 a b c d e f g h i j k l m n o p q r s t u v w x y z A C).bind fun D=>
 some ((!D))):=by kernel_rfl
noncomputable def Zao:Fn:=⟨19,[4],[(2,[(0,.c (.slice 28)),(1,.clo 206 []),(7,.c (.int .i64)),(8,.c (.int .i64))])],[],0,[],[],Tryz.f226,[.c (.slice 28),.clo 206 []],[.c (.int .i64)],[(206,Zzn.S)]⟩
theorem Zom:Zao.S.Ok Tryz.prog 226:=Zao.ok Tryz.func226 (by kernel_rfl) ⟨ZAh,trivial⟩
noncomputable def ZfM (a:LL):Option (Int):=Zao.S.g [.l a]
noncomputable def KE (k:Nat) (a:LL) (b c:Int):Option (Int):=Zao.lp [0] 0 r0 k [.l a,.i b,.i c]
theorem ZaO (k:Nat) (c:LL) (d b:Int):KE (k+1) c d b =
 (if (cop .lss b d) then
 Zm c b hs6 fun (a:Qt10)=>
 (Zz1 a.1 a.2.1 a.2.2.1 a.2.2.2.1 a.2.2.2.2.1 a.2.2.2.2.2.1 a.2.2.2.2.2.2.1 a.2.2.2.2.2.2.2.1 a.2.2.2.2.2.2.2.2.1 a.2.2.2.2.2.2.2.2.2.1 a.2.2.2.2.2.2.2.2.2.2.1 a.2.2.2.2.2.2.2.2.2.2.2.1 (d4 (d8 a)).1 (d4 (d8 a)).2.1 (d2 (d4 (d8 a))).1 (d2 (d4 (d8 a))).2.1 (d16 a).1 (d16 a).2.1 (d2 (d16 a)).1 (d2 (d16 a)).2.1 (d4 (d16 a)).1 (d4 (d16 a)).2.1 (d2 (d4 (d16 a))).1 (d2 (d4 (d16 a))).2.1 (d8 (d16 a)).1 (d8 (d16 a)).2.1 (d2 (d8 (d16 a))).1 (d2 (d8 (d16 a))).2).bind fun e=>
 if e then
 some (b)
 else
 KE k c d (iop .add .i64 b 1)
 else
 some ((-1))):=by kernel_rfl
theorem Zi4 (a:LL):ZfM a =
 (KE Zr a (List.length a:Int) 0):=by kernel_rfl
noncomputable def Zb7:Fn:=⟨9,[4],[],[],0,[],[],Tryz.f205,[.c (.slice 28),.clo 206 []],[.c (.bool)],[(226,Zao.S)]⟩
theorem Zm3:Zb7.S.Ok Tryz.prog 205:=Zb7.ok Tryz.func205 (by kernel_rfl) ⟨Zom,trivial⟩
noncomputable def Zfw (a:LL):Option (Bool):=Zb7.S.g [.l a]
theorem Zjp (a:LL):Zfw a =
 ((ZfM a).bind fun b=>
 some ((cop .geq b 0))):=by kernel_rfl
noncomputable def ZyV:Fn:=⟨6,[2],[],[],0,[],[],Tryz.f239,[.c (.int .i64)],[.c (.bool)],[]⟩
theorem ZCA:ZyV.S.Ok Tryz.prog 239:=ZyV.ok Tryz.func239 (by kernel_rfl) trivial
noncomputable def ZyO (a:Int):Option (Bool):=ZyV.S.g [.i a]
theorem Zsb (a:Int):ZyO a =
 (some ((cop .neq a a))):=by kernel_rfl
noncomputable def Zzj:Fn:=⟨20,[4],[],[],0,[],[],Tryz.f238,[.c (.int .i64),.c (.int .i64)],[.c (.int .i64)],[(239,ZyV.S)]⟩
theorem ZzA:Zzj.S.Ok Tryz.prog 238:=Zzj.ok Tryz.func238 (by kernel_rfl) ⟨ZCA,trivial⟩
noncomputable def ZvM (a b:Int):Option (Int):=Zzj.S.g [.i a,.i b]
theorem ZtL (a b:Int):ZvM a b =
 ((ZyO a).bind fun d=>
 (ZyO b).bind fun c=>
 if d then
 if c then
 some (0)
 else
 some ((-1))
 else
 if c then
 some (1)
 else
 if (cop .lss a b) then
 some ((-1))
 else
 if (cop .gtr a b) then
 some (1)
 else
 some (0)):=by kernel_rfl
noncomputable def Zwb:Fn:=⟨18,[2],[(3,[(3,.c (.int .i64)),(6,.c (.slice 1)),(7,.c (.int .i64)),(8,.c (.int .i64))])],[],0,[],[],Tryz.f237,[.c (.slice 1)],[.c (.int .i64)],[]⟩
theorem ZzJ:Zwb.S.Ok Tryz.prog 237:=Zwb.ok Tryz.func237 (by kernel_rfl) trivial
noncomputable def ZAz (a:LL):Option (Int):=Zwb.S.g [.l a]
noncomputable def ZnL (k:Nat) (a:Int) (b:LL) (c d:Int):Option (Int):=Zwb.lp [0] 0 r0 k [.i a,.l b,.i c,.i d]
theorem ZaZ (k:Nat) (a:Int) (c:LL) (d b:Int):ZnL (k+1) a c d b =
 (if (cop .lss b d) then
 Zm c b [.int .i64] fun (e:Int)=>
 if (cop .neq e a) then
 some (e)
 else
 ZnL k a c d (iop .add .i64 b 1)
 else
 some (a)):=by kernel_rfl
theorem Ztq (a:LL):ZAz a =
 (ZnL Zr 0 a (List.length a:Int) 0):=by kernel_rfl
noncomputable def Zzm:Fn:=⟨22,[4],[],[],0,[],[],Tryz.f227,[.agg [.int .i64,.int .i64,.int .i64],.agg [.int .i64,.int .i64,.int .i64]],[.c (.int .i64)],[(238,Zzj.S),(237,Zwb.S)]⟩
theorem ZCf:Zzm.S.Ok Tryz.prog 227:=Zzm.ok Tryz.func227 (by kernel_rfl) ⟨ZzA,⟨ZzJ,trivial⟩⟩
noncomputable def ZAK (a b c d e f:Int):Option (Int):=Zzm.S.g [.i a,.i b,.i c,.i d,.i e,.i f]
theorem Zr3 (a b c d e f:Int):ZAK a b c d e f =
 ((ZvM a d).bind fun g=>
 (ZvM b e).bind fun h=>
 (ZvM c f).bind fun i=>
 (ZAz (((E0++[[AV.val (.int .i64 g)]])++[[AV.val (.int .i64 h)]])++[[AV.val (.int .i64 i)]])).bind fun j=>
 some (j)):=by kernel_rfl
noncomputable def ZuY:Fn:=⟨9,[4],[],[],0,[],[],Tryz.f208,[.agg [.int .i64,.int .i64,.int .i64],.agg [.int .i64,.int .i64,.int .i64]],[.c (.bool)],[(227,Zzm.S)]⟩
theorem Zxd:ZuY.S.Ok Tryz.prog 208:=ZuY.ok Tryz.func208 (by kernel_rfl) ⟨ZCf,trivial⟩
noncomputable def Zzb (a b c d e f:Int):Option (Bool):=ZuY.S.g [.i a,.i b,.i c,.i d,.i e,.i f]
theorem ZrD (a b c d e f:Int):Zzb a b c d e f =
 ((ZAK a b c d e f).bind fun g=>
 some ((cop .lss g 0))):=by kernel_rfl
noncomputable def Zyg:Fn:=⟨17,[5],[],[2],0,[],[],Tryz.f207,[.c (.int .i64),.c (.int .i64),.box [.slice 28]],[.c (.bool)],[(208,ZuY.S)]⟩
theorem ZAp:Zyg.S.Ok Tryz.prog 207:=Zyg.ok Tryz.func207 (by kernel_rfl) ⟨Zxd,trivial⟩
noncomputable def ZAP (a b:Int) (c:LL):Option (Bool×LL):=Zyg.S.g [.i a,.i b,.l c]
theorem ZrI (d e:Int) (a:LL):ZAP d e a =
 (Zm a d hs6 fun (b:Qt10)=>
 Zm a e hs6 fun (c:Qt10)=>
 (Zzb b.1 b.2.1 b.2.2.1 c.1 c.2.1 c.2.2.1).bind fun f=>
 some (f,a)):=by kernel_rfl
noncomputable def Zbc:Fn:=⟨17,[4],[(2,[(0,.c (.int .i64)),(1,.clo 207 [17]),(5,.c (.int .i64)),(17,.gbox [.slice 28])])],[],1,[],[],Tryz.f102,[.c (.int .i64),.clo 207 [17],.dead,.dead,.dead,.dead,.dead,.dead,.dead,.dead,.dead,.dead,.dead,.dead,.dead,.dead,.dead,.gbox [.slice 28]],[.c (.bool)],[(207,Zyg.S)]⟩
theorem Zmz:Zbc.S.Ok Tryz.prog 102:=Zbc.ok Tryz.func102 (by kernel_rfl) ⟨ZAp,trivial⟩
noncomputable def ZfU (a:Int) (b:LL):Option (Bool×LL):=Zbc.S.g [.i a,.l b]
noncomputable def KG (k:Nat) (a b:Int) (c:LL):Option (Bool×LL):=Zbc.lp [0] 0 r0 k [.i a,.i b,.l c]
theorem Zbe (k:Nat) (b a:Int) (c:LL):KG (k+1) b a c =
 (if (cop .lss a b) then
 (ZAP (iop .sub .i64 a 1) a c).bind fun d=>
 if (!d.1) then
 some (false,d.2)
 else
 KG k b (iop .add .i64 a 1) d.2
 else
 some (true,c)):=by kernel_rfl
theorem Zie (a:Int) (b:LL):ZfU a b =
 (KG Zr a 1 b):=by kernel_rfl
noncomputable def Zyp:Fn:=⟨12,[2],[],[],0,[],[],Tryz.f173,[.c (.slice 28)],[.c (.bool)],[(205,Zb7.S),(102,Zbc.S)]⟩
theorem ZCu:Zyp.S.Ok Tryz.prog 173:=Zyp.ok Tryz.func173 (by kernel_rfl) ⟨Zm3,⟨Zmz,trivial⟩⟩
noncomputable def ZCa (a:LL):Option (Bool):=Zyp.S.g [.l a]
theorem Zsr (a:LL):ZCa a =
 ((Zfw a).bind fun b=>
 if (!b) then
 (ZfU (List.length a:Int) a).bind fun c=>
 some (c.1)
 else
 some (false)):=by kernel_rfl
noncomputable def Zyo:Fn:=⟨13,[2],[],[],0,[],[],Tryz.f210,[.agg [.int .i64,.int .i64,.int .i64,.int .i64]],[.c (.bool)],[(89,F89.S),(91,F91.S)]⟩
theorem ZCD:Zyo.S.Ok Tryz.prog 210:=Zyo.ok Tryz.func210 (by kernel_rfl) ⟨ZyU,⟨ZyF,trivial⟩⟩
noncomputable def ZAX (a b c d:Int):Option (Bool):=Zyo.S.g [.i a,.i b,.i c,.i d]
theorem ZsP (a b c d:Int):ZAX a b c d =
 ((g89 a).bind fun e=>
 if (!e) then
 some (true)
 else
 (g91 b c d).bind fun f=>
 some ((!f))):=by kernel_rfl
noncomputable def Za5:Fn:=⟨19,[4],[(2,[(0,.c (.slice 4)),(1,.clo 210 []),(7,.c (.int .i64)),(8,.c (.int .i64))])],[],0,[],[],Tryz.f228,[.c (.slice 4),.clo 210 []],[.c (.int .i64)],[(210,Zyo.S)]⟩
theorem Zmu:Za5.S.Ok Tryz.prog 228:=Za5.ok Tryz.func228 (by kernel_rfl) ⟨ZCD,trivial⟩
noncomputable def ZfW (a:LL):Option (Int):=Za5.S.g [.l a]
noncomputable def KR (k:Nat) (a:LL) (b c:Int):Option (Int):=Za5.lp [0] 0 r0 k [.l a,.i b,.i c]
theorem ZaY (k:Nat) (c:LL) (d a:Int):KR (k+1) c d a =
 (if (cop .lss a d) then
 Zm c a [.int .i64,.int .i64,.int .i64,.int .i64] fun (b:Int×Int×Int×Int)=>
 (ZAX b.1 b.2.1 b.2.2.1 b.2.2.2).bind fun e=>
 if e then
 some (a)
 else
 KR k c d (iop .add .i64 a 1)
 else
 some ((-1))):=by kernel_rfl
theorem Ziy (a:LL):ZfW a =
 (KR Zr a (List.length a:Int) 0):=by kernel_rfl
noncomputable def Zb9:Fn:=⟨9,[4],[],[],0,[],[],Tryz.f209,[.c (.slice 4),.clo 210 []],[.c (.bool)],[(228,Za5.S)]⟩
theorem Zot:Zb9.S.Ok Tryz.prog 209:=Zb9.ok Tryz.func209 (by kernel_rfl) ⟨Zmu,trivial⟩
noncomputable def Zf7 (a:LL):Option (Bool):=Zb9.S.g [.l a]
theorem ZiA (a:LL):Zf7 a =
 ((ZfW a).bind fun b=>
 some ((cop .geq b 0))):=by kernel_rfl
noncomputable def Zyl:Fn:=⟨17,[5],[],[2],0,[],[],Tryz.f211,[.c (.int .i64),.c (.int .i64),.box [.slice 4]],[.c (.bool)],[]⟩
theorem ZBI:Zyl.S.Ok Tryz.prog 211:=Zyl.ok Tryz.func211 (by kernel_rfl) trivial
noncomputable def ZCI (a b:Int) (c:LL):Option (Bool×LL):=Zyl.S.g [.i a,.i b,.l c]
theorem Zsu (b c:Int) (a:LL):ZCI b c a =
 (Zm a b [.int .i64,.int .i64,.int .i64,.int .i64] fun (d:Int×Int×Int×Int)=>
 Zm a c [.int .i64,.int .i64,.int .i64,.int .i64] fun (e:Int×Int×Int×Int)=>
 some ((cop .lss d.1 e.1),a)):=by kernel_rfl
noncomputable def ZaN:Fn:=⟨17,[4],[(2,[(0,.c (.int .i64)),(1,.clo 211 [17]),(5,.c (.int .i64)),(17,.gbox [.slice 4])])],[],1,[],[],Tryz.f102,[.c (.int .i64),.clo 211 [17],.dead,.dead,.dead,.dead,.dead,.dead,.dead,.dead,.dead,.dead,.dead,.dead,.dead,.dead,.dead,.gbox [.slice 4]],[.c (.bool)],[(211,Zyl.S)]⟩
theorem ZoM:ZaN.S.Ok Tryz.prog 102:=ZaN.ok Tryz.func102 (by kernel_rfl) ⟨ZBI,trivial⟩
noncomputable def Zf4 (a:Int) (b:LL):Option (Bool×LL):=ZaN.S.g [.i a,.l b]
noncomputable def KF (k:Nat) (a b:Int) (c:LL):Option (Bool×LL):=ZaN.lp [0] 0 r0 k [.i a,.i b,.l c]
theorem Za7 (k:Nat) (b a:Int) (c:LL):KF (k+1) b a c =
 (if (cop .lss a b) then
 (ZCI (iop .sub .i64 a 1) a c).bind fun d=>
 if (!d.1) then
 some (false,d.2)
 else
 KF k b (iop .add .i64 a 1) d.2
 else
 some (true,c)):=by kernel_rfl
theorem ZiM (a:Int) (b:LL):Zf4 a b =
 (KF Zr a 1 b):=by kernel_rfl
noncomputable def Zzd:Fn:=⟨12,[2],[],[],0,[],[],Tryz.f174,[.c (.slice 4)],[.c (.bool)],[(209,Zb9.S),(102,ZaN.S)]⟩
theorem ZAf:Zzd.S.Ok Tryz.prog 174:=Zzd.ok Tryz.func174 (by kernel_rfl) ⟨Zot,⟨ZoM,trivial⟩⟩
noncomputable def ZBw (a:LL):Option (Bool):=Zzd.S.g [.l a]
theorem Zsm (a:LL):ZBw a =
 ((Zf7 a).bind fun b=>
 if (!b) then
 (Zf4 (List.length a:Int) a).bind fun c=>
 some (c.1)
 else
 some (false)):=by kernel_rfl
noncomputable def Zym:Fn:=⟨17,[2],[],[],0,[],[],Tryz.f213,[.agg [.int .i64,.int .i64]],[.c (.bool)],[(92,F92.S)]⟩
theorem Zz6:Zym.S.Ok Tryz.prog 213:=Zym.ok Tryz.func213 (by kernel_rfl) ⟨ZC2,trivial⟩
noncomputable def ZBu (a b:Int):Option (Bool):=Zym.S.g [.i a,.i b]
theorem Zsa (a b:Int):ZBu a b =
 (if (cop .lss a 1) then
 some (true)
 else
 if (cop .gtr a 1073741824) then
 some (true)
 else
 (g92 b).bind fun c=>
 some ((!c))):=by kernel_rfl
noncomputable def ZaF:Fn:=⟨19,[4],[(2,[(0,.c (.slice 2)),(1,.clo 213 []),(7,.c (.int .i64)),(8,.c (.int .i64))])],[],0,[],[],Tryz.f229,[.c (.slice 2),.clo 213 []],[.c (.int .i64)],[(213,Zym.S)]⟩
theorem Zoa:ZaF.S.Ok Tryz.prog 229:=ZaF.ok Tryz.func229 (by kernel_rfl) ⟨Zz6,trivial⟩
noncomputable def Zf0 (a:LL):Option (Int):=ZaF.S.g [.l a]
noncomputable def KK (k:Nat) (a:LL) (b c:Int):Option (Int):=ZaF.lp [0] 0 r0 k [.l a,.i b,.i c]
theorem ZaL (k:Nat) (b:LL) (c a:Int):KK (k+1) b c a =
 (if (cop .lss a c) then
 Zm b a [.int .i64,.int .i64] fun (d:Int×Int)=>
 (ZBu d.1 d.2).bind fun e=>
 if e then
 some (a)
 else
 KK k b c (iop .add .i64 a 1)
 else
 some ((-1))):=by kernel_rfl
theorem Zjo (a:LL):Zf0 a =
 (KK Zr a (List.length a:Int) 0):=by kernel_rfl
noncomputable def Zcc:Fn:=⟨9,[4],[],[],0,[],[],Tryz.f212,[.c (.slice 2),.clo 213 []],[.c (.bool)],[(229,ZaF.S)]⟩
theorem ZnS:Zcc.S.Ok Tryz.prog 212:=Zcc.ok Tryz.func212 (by kernel_rfl) ⟨Zoa,trivial⟩
noncomputable def Zfq (a:LL):Option (Bool):=Zcc.S.g [.l a]
theorem ZiF (a:LL):Zfq a =
 ((Zf0 a).bind fun b=>
 some ((cop .geq b 0))):=by kernel_rfl
noncomputable def Zyk:Fn:=⟨17,[5],[],[2],0,[],[],Tryz.f214,[.c (.int .i64),.c (.int .i64),.box [.slice 2]],[.c (.bool)],[]⟩
theorem ZCF:Zyk.S.Ok Tryz.prog 214:=Zyk.ok Tryz.func214 (by kernel_rfl) trivial
noncomputable def ZCw (a b:Int) (c:LL):Option (Bool×LL):=Zyk.S.g [.i a,.i b,.l c]
theorem Zub (b c:Int) (a:LL):ZCw b c a =
 (Zm a b [.int .i64,.int .i64] fun (d:Int×Int)=>
 Zm a c [.int .i64,.int .i64] fun (e:Int×Int)=>
 some ((cop .lss d.1 e.1),a)):=by kernel_rfl
noncomputable def Za4:Fn:=⟨17,[4],[(2,[(0,.c (.int .i64)),(1,.clo 214 [17]),(5,.c (.int .i64)),(17,.gbox [.slice 2])])],[],1,[],[],Tryz.f102,[.c (.int .i64),.clo 214 [17],.dead,.dead,.dead,.dead,.dead,.dead,.dead,.dead,.dead,.dead,.dead,.dead,.dead,.dead,.dead,.gbox [.slice 2]],[.c (.bool)],[(214,Zyk.S)]⟩
theorem Znp:Za4.S.Ok Tryz.prog 102:=Za4.ok Tryz.func102 (by kernel_rfl) ⟨ZCF,trivial⟩
noncomputable def ZfF (a:Int) (b:LL):Option (Bool×LL):=Za4.S.g [.i a,.l b]
noncomputable def KQ (k:Nat) (a b:Int) (c:LL):Option (Bool×LL):=Za4.lp [0] 0 r0 k [.i a,.i b,.l c]
theorem Za1 (k:Nat) (b a:Int) (c:LL):KQ (k+1) b a c =
 (if (cop .lss a b) then
 (ZCw (iop .sub .i64 a 1) a c).bind fun d=>
 if (!d.1) then
 some (false,d.2)
 else
 KQ k b (iop .add .i64 a 1) d.2
 else
 some (true,c)):=by kernel_rfl
theorem Zi0 (a:Int) (b:LL):ZfF a b =
 (KQ Zr a 1 b):=by kernel_rfl
noncomputable def Zzl:Fn:=⟨12,[2],[],[],0,[],[],Tryz.f175,[.c (.slice 2)],[.c (.bool)],[(212,Zcc.S),(102,Za4.S)]⟩
theorem ZBv:Zzl.S.Ok Tryz.prog 175:=Zzl.ok Tryz.func175 (by kernel_rfl) ⟨ZnS,⟨Znp,trivial⟩⟩
noncomputable def ZB1 (a:LL):Option (Bool):=Zzl.S.g [.l a]
theorem Ztm (a:LL):ZB1 a =
 ((Zfq a).bind fun b=>
 if (!b) then
 (ZfF (List.length a:Int) a).bind fun c=>
 some (c.1)
 else
 some (false)):=by kernel_rfl
noncomputable def ZyZ:Fn:=⟨19,[2],[],[],0,[],[],Tryz.f216,[.agg hs12],[.c (.bool)],[(34,F34.S),(96,F96.S),(95,F95.S)]⟩
theorem ZzR:ZyZ.S.Ok Tryz.prog 216:=ZyZ.ok Tryz.func216 (by kernel_rfl) ⟨ZsG,⟨ZDi,⟨Zur,trivial⟩⟩⟩
noncomputable def ZCz (a c d e f:Int) (h:LL) (j k m n o p:Int) (q:Bool):Option (Bool):=ZyZ.S.g [.i a,.i c,.i d,.i e,.i f,.l h,.i j,.i k,.i m,.i n,.i o,.i p,.b q]
theorem Zti (a b c d e:Int) (f:LL) (g h i j k l:Int) (m:Bool):ZCz a b c d e f g h i j k l m =
 ((g34 a).bind fun n=>
 if (!n) then
 some (true)
 else
 (g96 b).bind fun o=>
 if (!o) then
 some (true)
 else
 (g95 c d e f g h i j k l m).bind fun p=>
 some ((!p))):=by kernel_rfl
noncomputable def Zbb:Fn:=⟨19,[4],[(2,[(0,.c (.slice 13)),(1,.clo 216 []),(7,.c (.int .i64)),(8,.c (.int .i64))])],[],0,[],[],Tryz.f230,[.c (.slice 13),.clo 216 []],[.c (.int .i64)],[(216,ZyZ.S)]⟩
theorem Zob:Zbb.S.Ok Tryz.prog 230:=Zbb.ok Tryz.func230 (by kernel_rfl) ⟨ZzR,trivial⟩
noncomputable def ZfK (a:LL):Option (Int):=Zbb.S.g [.l a]
noncomputable def KO (k:Nat) (a:LL) (b c:Int):Option (Int):=Zbb.lp [0] 0 r0 k [.l a,.i b,.i c]
theorem ZaK (k:Nat) (c:LL) (d b:Int):KO (k+1) c d b =
 (if (cop .lss b d) then
 Zm c b hs12 fun (a:Qt25)=>
 (ZCz a.1 a.2.1 a.2.2.1 a.2.2.2.1 a.2.2.2.2.1 a.2.2.2.2.2.1 a.2.2.2.2.2.2.1 a.2.2.2.2.2.2.2.1 a.2.2.2.2.2.2.2.2.1 a.2.2.2.2.2.2.2.2.2.1 a.2.2.2.2.2.2.2.2.2.2.1 a.2.2.2.2.2.2.2.2.2.2.2.1 (d4 (d8 a))).bind fun e=>
 if e then
 some (b)
 else
 KO k c d (iop .add .i64 b 1)
 else
 some ((-1))):=by kernel_rfl
theorem Zis (a:LL):ZfK a =
 (KO Zr a (List.length a:Int) 0):=by kernel_rfl
noncomputable def Zb8:Fn:=⟨9,[4],[],[],0,[],[],Tryz.f215,[.c (.slice 13),.clo 216 []],[.c (.bool)],[(230,Zbb.S)]⟩
theorem ZmT:Zb8.S.Ok Tryz.prog 215:=Zb8.ok Tryz.func215 (by kernel_rfl) ⟨Zob,trivial⟩
noncomputable def Zfl (a:LL):Option (Bool):=Zb8.S.g [.l a]
theorem Zjt (a:LL):Zfl a =
 ((ZfK a).bind fun b=>
 some ((cop .geq b 0))):=by kernel_rfl
noncomputable def Zzf:Fn:=⟨19,[5],[],[2],0,[],[],Tryz.f217,[.c (.int .i64),.c (.int .i64),.box [.slice 13]],[.c (.bool)],[(208,ZuY.S)]⟩
theorem ZAm:Zzf.S.Ok Tryz.prog 217:=Zzf.ok Tryz.func217 (by kernel_rfl) ⟨Zxd,trivial⟩
noncomputable def ZBQ (a b:Int) (c:LL):Option (Bool×LL):=Zzf.S.g [.i a,.i b,.l c]
theorem Zs7 (d e:Int) (a:LL):ZBQ d e a =
 (Zm a d hs12 fun (b:Qt25)=>
 Zm a e hs12 fun (c:Qt25)=>
 (Zzb b.2.2.1 b.2.2.2.1 b.2.2.2.2.1 c.2.2.1 c.2.2.2.1 c.2.2.2.2.1).bind fun f=>
 some (f,a)):=by kernel_rfl
noncomputable def ZaA:Fn:=⟨17,[4],[(2,[(0,.c (.int .i64)),(1,.clo 217 [17]),(5,.c (.int .i64)),(17,.gbox [.slice 13])])],[],1,[],[],Tryz.f102,[.c (.int .i64),.clo 217 [17],.dead,.dead,.dead,.dead,.dead,.dead,.dead,.dead,.dead,.dead,.dead,.dead,.dead,.dead,.dead,.gbox [.slice 13]],[.c (.bool)],[(217,Zzf.S)]⟩
theorem Zm8:ZaA.S.Ok Tryz.prog 102:=ZaA.ok Tryz.func102 (by kernel_rfl) ⟨ZAm,trivial⟩
noncomputable def Ze8 (a:Int) (b:LL):Option (Bool×LL):=ZaA.S.g [.i a,.l b]
noncomputable def KD (k:Nat) (a b:Int) (c:LL):Option (Bool×LL):=ZaA.lp [0] 0 r0 k [.i a,.i b,.l c]
theorem ZaV (k:Nat) (b a:Int) (c:LL):KD (k+1) b a c =
 (if (cop .lss a b) then
 (ZBQ (iop .sub .i64 a 1) a c).bind fun d=>
 if (!d.1) then
 some (false,d.2)
 else
 KD k b (iop .add .i64 a 1) d.2
 else
 some (true,c)):=by kernel_rfl
theorem Ziv (a:Int) (b:LL):Ze8 a b =
 (KD Zr a 1 b):=by kernel_rfl
noncomputable def ZyG:Fn:=⟨12,[2],[],[],0,[],[],Tryz.f176,[.c (.slice 13)],[.c (.bool)],[(215,Zb8.S),(102,ZaA.S)]⟩
theorem ZAD:ZyG.S.Ok Tryz.prog 176:=ZyG.ok Tryz.func176 (by kernel_rfl) ⟨ZmT,⟨Zm8,trivial⟩⟩
noncomputable def ZAw (a:LL):Option (Bool):=ZyG.S.g [.l a]
theorem Zt4 (a:LL):ZAw a =
 ((Zfl a).bind fun b=>
 if (!b) then
 (Ze8 (List.length a:Int) a).bind fun c=>
 some (c.1)
 else
 some (false)):=by kernel_rfl
noncomputable def Zyt:Fn:=⟨6,[2],[],[],0,[],[],Tryz.f177,[.agg [.int .i64,.int .i64,.int .i64]],[.c (.bool)],[(91,F91.S)]⟩
theorem ZCi:Zyt.S.Ok Tryz.prog 177:=Zyt.ok Tryz.func177 (by kernel_rfl) ⟨ZyF,trivial⟩
noncomputable def ZAT (a b c:Int):Option (Bool):=Zyt.S.g [.i a,.i b,.i c]
theorem Ztr (a b c:Int):ZAT a b c =
 ((g91 a b c).bind fun d=>
 some ((!d))):=by kernel_rfl
noncomputable def ZaS:Fn:=⟨19,[4],[(2,[(0,.c (.slice 3)),(1,.clo 177 []),(7,.c (.int .i64)),(8,.c (.int .i64))])],[],0,[],[],Tryz.f168,[.c (.slice 3),.clo 177 []],[.c (.int .i64)],[(177,Zyt.S)]⟩
theorem ZoN:ZaS.S.Ok Tryz.prog 168:=ZaS.ok Tryz.func168 (by kernel_rfl) ⟨ZCi,trivial⟩
noncomputable def Zgf (a:LL):Option (Int):=ZaS.S.g [.l a]
noncomputable def KJ (k:Nat) (a:LL) (b c:Int):Option (Int):=ZaS.lp [0] 0 r0 k [.l a,.i b,.i c]
theorem Za9 (k:Nat) (b:LL) (c a:Int):KJ (k+1) b c a =
 (if (cop .lss a c) then
 Zm b a [.int .i64,.int .i64,.int .i64] fun (d:Int×Int×Int)=>
 (ZAT d.1 d.2.1 d.2.2).bind fun e=>
 if e then
 some (a)
 else
 KJ k b c (iop .add .i64 a 1)
 else
 some ((-1))):=by kernel_rfl
theorem ZiY (a:LL):Zgf a =
 (KJ Zr a (List.length a:Int) 0):=by kernel_rfl
noncomputable def Zfx:Fn:=⟨9,[4],[],[],0,[],[],Tryz.f97,[.c (.slice 3),.clo 177 []],[.c (.bool)],[(168,ZaS.S)]⟩
theorem Zqj:Zfx.S.Ok Tryz.prog 97:=Zfx.ok Tryz.func97 (by kernel_rfl) ⟨ZoN,trivial⟩
noncomputable def ZiD (a:LL):Option (Bool):=Zfx.S.g [.l a]
theorem Zly (a:LL):ZiD a =
 ((Zgf a).bind fun b=>
 some ((cop .geq b 0))):=by kernel_rfl
noncomputable def ZxU:Fn:=⟨32,[2],[],[],0,[],[],Tryz.f106,[.agg hs30],[.c (.bool)],[(172,Zxs.S),(173,Zyp.S),(174,Zzd.S),(175,Zzl.S),(176,ZyG.S),(97,Zfx.S)]⟩
theorem ZvK:ZxU.S.Ok Tryz.prog 106:=ZxU.ok Tryz.func106 (by kernel_rfl) ⟨ZBb,⟨ZCu,⟨ZAf,⟨ZBv,⟨ZAD,⟨Zqj,trivial⟩⟩⟩⟩⟩⟩
noncomputable def Zxi (a b c d e f:LL):Option (Bool):=ZxU.S.g [.l a,.l b,.l c,.l d,.l e,.l f]
theorem Zs0 (a b c d e f:LL):Zxi a b c d e f =
 ((ZzY a).bind fun g=>
 if g then
 (ZCa b).bind fun h=>
 if h then
 (ZBw c).bind fun i=>
 if i then
 (ZB1 d).bind fun j=>
 if j then
 (ZAw e).bind fun k=>
 if k then
 (ZiD f).bind fun l=>
 some ((!l))
 else
 some (false)
 else
 some (false)
 else
 some (false)
 else
 some (false)
 else
 some (false)):=by kernel_rfl
noncomputable def Zyi:Fn:=⟨26,[2],[],[],0,[],[],Tryz.f104,[.agg hs7],[.c (.bool)],[(34,F34.S),(105,Zut.S),(106,ZxU.S)]⟩
theorem ZAG:Zyi.S.Ok Tryz.prog 104:=Zyi.ok Tryz.func104 (by kernel_rfl) ⟨ZsG,⟨ZxX,⟨ZvK,trivial⟩⟩⟩
noncomputable def Zzr (a c:Int) (d e f h j k m n:LL) (o:Bool) (p:Int) (q r s t u v w x:LL):Option (Bool):=Zyi.S.g [.i a,.i c,.l d,.l e,.l f,.l h,.l j,.l k,.l m,.l n,.b o,.i p,.l q,.l r,.l s,.l t,.l u,.l v,.l w,.l x]
theorem ZrV (a b:Int) (c d e f g h i j:LL) (t:Bool) (k:Int) (l m n o p q r s:LL):Zzr a b c d e f g h i j t k l m n o p q r s =
 ((g34 a).bind fun u=>
 if u then
 (ZxY b c d).bind fun v=>
 if v then
 (Zxi e f g h i j).bind fun w=>
 if w then
 (ZxY k l m).bind fun x=>
 if x then
 (Zxi n o p q r s).bind fun y=>
 some (y)
 else
 some (false)
 else
 some (false)
 else
 some (false)
 else
 some (false)):=by kernel_rfl
noncomputable def F94:Fn:=⟨6,[2],[],[],0,[],[],Tryz.f94,[.agg hs16],[.c (.bool)],[(95,F95.S)]⟩
theorem ZFg:F94.S.Ok Tryz.prog 94:=F94.ok Tryz.func94 (by kernel_rfl) ⟨Zur,trivial⟩
noncomputable def g94 (a c d:Int) (e:LL) (f h j k m n:Int) (o:Bool):Option (Bool):=F94.S.g [.i a,.i c,.i d,.l e,.i f,.i h,.i j,.i k,.i m,.i n,.b o]
theorem Zwx (a b c:Int) (d:LL) (e f g h i j:Int) (k:Bool):g94 a b c d e f g h i j k =
 ((g95 a b c d e f g h i j k).bind fun l=>
 some ((!l))):=by kernel_rfl
noncomputable def Zdj:Fn:=⟨19,[4],[(2,[(0,.c (.slice 11)),(1,.clo 94 []),(7,.c (.int .i64)),(8,.c (.int .i64))])],[],0,[],[],Tryz.f165,[.c (.slice 11),.clo 94 []],[.c (.int .i64)],[(94,F94.S)]⟩
theorem ZpJ:Zdj.S.Ok Tryz.prog 165:=Zdj.ok Tryz.func165 (by kernel_rfl) ⟨ZFg,trivial⟩
noncomputable def Zil (a:LL):Option (Int):=Zdj.S.g [.l a]
noncomputable def Vu (k:Nat) (a:LL) (b c:Int):Option (Int):=Zdj.lp [0] 0 r0 k [.l a,.i b,.i c]
theorem ZbU (k:Nat) (c:LL) (d b:Int):Vu (k+1) c d b =
 (if (cop .lss b d) then
 Zm c b hs16 fun (a:Qt31)=>
 (g94 a.1 a.2.1 a.2.2.1 a.2.2.2.1 a.2.2.2.2.1 a.2.2.2.2.2.1 a.2.2.2.2.2.2.1 a.2.2.2.2.2.2.2.1 a.2.2.2.2.2.2.2.2.1 a.2.2.2.2.2.2.2.2.2.1 a.2.2.2.2.2.2.2.2.2.2).bind fun e=>
 if e then
 some (b)
 else
 Vu k c d (iop .add .i64 b 1)
 else
 some ((-1))):=by kernel_rfl
theorem Zl8 (a:LL):Zil a =
 (Vu Zr a (List.length a:Int) 0):=by kernel_rfl
noncomputable def ZjP:Fn:=⟨9,[4],[],[],0,[],[],Tryz.f93,[.c (.slice 11),.clo 94 []],[.c (.bool)],[(165,Zdj.S)]⟩
theorem Ztj:ZjP.S.Ok Tryz.prog 93:=ZjP.ok Tryz.func93 (by kernel_rfl) ⟨ZpJ,trivial⟩
noncomputable def Zer (a:LL):Option (Bool):=ZjP.S.g [.l a]
theorem ZnC (a:LL):Zer a =
 ((Zil a).bind fun b=>
 some ((cop .geq b 0))):=by kernel_rfl
noncomputable def F98:Fn:=⟨6,[2],[],[],0,[],[],Tryz.f98,[.agg [.int .i64,.int .i64,.int .i64]],[.c (.bool)],[(99,F99.S)]⟩
theorem ZEe:F98.S.Ok Tryz.prog 98:=F98.ok Tryz.func98 (by kernel_rfl) ⟨ZyE,trivial⟩
noncomputable def g98 (a b c:Int):Option (Bool):=F98.S.g [.i a,.i b,.i c]
theorem ZvB (a b c:Int):g98 a b c =
 ((g99 a b c).bind fun d=>
 some ((!d))):=by kernel_rfl
noncomputable def ZcA:Fn:=⟨19,[4],[(2,[(0,.c (.slice 3)),(1,.clo 98 []),(7,.c (.int .i64)),(8,.c (.int .i64))])],[],0,[],[],Tryz.f168,[.c (.slice 3),.clo 98 []],[.c (.int .i64)],[(98,F98.S)]⟩
theorem Zo7:ZcA.S.Ok Tryz.prog 168:=ZcA.ok Tryz.func168 (by kernel_rfl) ⟨ZEe,trivial⟩
noncomputable def ZiZ (a:LL):Option (Int):=ZcA.S.g [.l a]
noncomputable def Vt (k:Nat) (a:LL) (b c:Int):Option (Int):=ZcA.lp [0] 0 r0 k [.l a,.i b,.i c]
theorem ZbW (k:Nat) (b:LL) (c a:Int):Vt (k+1) b c a =
 (if (cop .lss a c) then
 Zm b a [.int .i64,.int .i64,.int .i64] fun (d:Int×Int×Int)=>
 (g98 d.1 d.2.1 d.2.2).bind fun e=>
 if e then
 some (a)
 else
 Vt k b c (iop .add .i64 a 1)
 else
 some ((-1))):=by kernel_rfl
theorem ZlI (a:LL):ZiZ a =
 (Vt Zr a (List.length a:Int) 0):=by kernel_rfl
noncomputable def ZkG:Fn:=⟨9,[4],[],[],0,[],[],Tryz.f97,[.c (.slice 3),.clo 98 []],[.c (.bool)],[(168,ZcA.S)]⟩
theorem Ztc:ZkG.S.Ok Tryz.prog 97:=ZkG.ok Tryz.func97 (by kernel_rfl) ⟨Zo7,trivial⟩
noncomputable def ZjR (a:LL):Option (Bool):=ZkG.S.g [.l a]
theorem ZoE (a:LL):ZjR a =
 ((ZiZ a).bind fun b=>
 some ((cop .geq b 0))):=by kernel_rfl
noncomputable def ZyW:Fn:=⟨6,[2],[],[],0,[],[],Tryz.f101,[.c (.int .i64)],[.c (.bool)],[(34,F34.S)]⟩
theorem Zz3:ZyW.S.Ok Tryz.prog 101:=ZyW.ok Tryz.func101 (by kernel_rfl) ⟨ZsG,trivial⟩
noncomputable def ZAA (a:Int):Option (Bool):=ZyW.S.g [.i a]
theorem ZrE (a:Int):ZAA a =
 ((g34 a).bind fun b=>
 some ((!b))):=by kernel_rfl
noncomputable def Za0:Fn:=⟨19,[4],[(2,[(0,.c (.slice 1)),(1,.clo 101 []),(7,.c (.int .i64)),(8,.c (.int .i64))])],[],0,[],[],Tryz.f169,[.c (.slice 1),.clo 101 []],[.c (.int .i64)],[(101,ZyW.S)]⟩
theorem Znf:Za0.S.Ok Tryz.prog 169:=Za0.ok Tryz.func169 (by kernel_rfl) ⟨Zz3,trivial⟩
noncomputable def ZfH (a:LL):Option (Int):=Za0.S.g [.l a]
noncomputable def KM (k:Nat) (a:LL) (b c:Int):Option (Int):=Za0.lp [0] 0 r0 k [.l a,.i b,.i c]
theorem Zak (k:Nat) (b:LL) (c a:Int):KM (k+1) b c a =
 (if (cop .lss a c) then
 Zm b a [.int .i64] fun (d:Int)=>
 (ZAA d).bind fun e=>
 if e then
 some (a)
 else
 KM k b c (iop .add .i64 a 1)
 else
 some ((-1))):=by kernel_rfl
theorem Zi8 (a:LL):ZfH a =
 (KM Zr a (List.length a:Int) 0):=by kernel_rfl
noncomputable def Zcb:Fn:=⟨9,[4],[],[],0,[],[],Tryz.f100,[.c (.slice 1),.clo 101 []],[.c (.bool)],[(169,Za0.S)]⟩
theorem Zn3:Zcb.S.Ok Tryz.prog 100:=Zcb.ok Tryz.func100 (by kernel_rfl) ⟨Znf,trivial⟩
noncomputable def Zcg (a:LL):Option (Bool):=Zcb.S.g [.l a]
theorem ZiH (a:LL):Zcg a =
 ((ZfH a).bind fun b=>
 some ((cop .geq b 0))):=by kernel_rfl
noncomputable def Zyu:Fn:=⟨17,[5],[],[2],0,[],[],Tryz.f103,[.c (.int .i64),.c (.int .i64),.box hs0],[.c (.bool)],[]⟩
theorem ZBc:Zyu.S.Ok Tryz.prog 103:=Zyu.ok Tryz.func103 (by kernel_rfl) trivial
noncomputable def ZB2 (a c d e f h j k m n o p q:Int) (r:Bool) (s t u v w x y z A C D E G H J K L M N O:Int) (P:LL) (Q R T U V W:Int) (X:Bool) (Y Z aa ab:LL) (ac ad:Int) (ae af ag ah ai aj ak al:LL) (am an:Int) (ao ap aq ar aZ au av aw:LL) (ax:Bool) (ay:Int) (az a0 a1 a2 a3 a4 a5 a6:LL):Option (Qt3):=Zyu.S.g [.i a,.i c,.i d,.i e,.i f,.i h,.i j,.i k,.i m,.i n,.i o,.i p,.i q,.b r,.i s,.i t,.i u,.i v,.i w,.i x,.i y,.i z,.i A,.i C,.i D,.i E,.i G,.i H,.i J,.i K,.i L,.i M,.i N,.i O,.l P,.i Q,.i R,.i T,.i U,.i V,.i W,.b X,.l Y,.l Z,.l aa,.l ab,.i ac,.i ad,.l ae,.l af,.l ag,.l ah,.l ai,.l aj,.l ak,.l al,.i am,.i an,.l ao,.l ap,.l aq,.l ar,.l aZ,.l au,.l av,.l aw,.b ax,.i ay,.l az,.l a0,.l a1,.l a2,.l a3,.l a4,.l a5,.l a6]
theorem Zty (b c d e f g h i j k l m n:Int) (o:Bool) (p q r s t u v w x y z A C D E G H J K L:Int) (M:LL) (N O P Q R T:Int) (U:Bool) (V W a X:LL) (Y Z:Int) (aa ab ac ad ae af ag ah:LL) (ai aj:Int) (ak al am an ao ap aq ar:LL) (aZ:Bool) (au:Int) (av aw ax ay az a0 a1 a2:LL):ZB2 b c d e f g h i j k l m n o p q r s t u v w x y z A C D E G H J K L M N O P Q R T U V W a X Y Z aa ab ac ad ae af ag ah ai aj ak al am an ao ap aq ar aZ au av aw ax ay az a0 a1 a2 =
 (Zm a b [.int .i64] fun (a3:Int)=>
 Zm a c [.int .i64] fun (a4:Int)=>
 some ((cop .lss a3 a4),d,e,f,g,h,i,j,k,l,m,n,o,p,q,r,s,t,u,v,w,x,y,z,A,C,D,E,G,H,J,K,L,M,N,O,P,Q,R,T,U,V,W,a,X,Y,Z,aa,ab,ac,ad,ae,af,ag,ah,ai,aj,ak,al,am,an,ao,ap,aq,ar,aZ,au,av,aw,ax,ay,az,a0,a1,a2)):=by kernel_rfl
noncomputable def ZaH:Fn:=⟨17,[4],[(2,[(0,.c (.int .i64)),(1,.clo 103 [17]),(5,.c (.int .i64)),(17,.gbox hs0)])],[],1,[],[],Tryz.f102,[.c (.int .i64),.clo 103 [17],.dead,.dead,.dead,.dead,.dead,.dead,.dead,.dead,.dead,.dead,.dead,.dead,.dead,.dead,.dead,.gbox hs0],[.c (.bool)],[(103,Zyu.S)]⟩
theorem Zoe:ZaH.S.Ok Tryz.prog 102:=ZaH.ok Tryz.func102 (by kernel_rfl) ⟨ZBc,trivial⟩
noncomputable def Zci (a c d e f h j k m n o p:Int) (q:Bool) (r s t u v w x y z A C D E G H J K L M N:Int) (O:LL) (P Q R T U V:Int) (W:Bool) (X Y Z aa:LL) (ab ac:Int) (ad ae af ag ah ai aj ak:LL) (al am:Int) (an ao ap aq ar aZ au av:LL) (aw:Bool) (ax:Int) (ay az a0 a1 a2 a3 a4 a5:LL):Option (Qt3):=ZaH.S.g [.i a,.i c,.i d,.i e,.i f,.i h,.i j,.i k,.i m,.i n,.i o,.i p,.b q,.i r,.i s,.i t,.i u,.i v,.i w,.i x,.i y,.i z,.i A,.i C,.i D,.i E,.i G,.i H,.i J,.i K,.i L,.i M,.i N,.l O,.i P,.i Q,.i R,.i T,.i U,.i V,.b W,.l X,.l Y,.l Z,.l aa,.i ab,.i ac,.l ad,.l ae,.l af,.l ag,.l ah,.l ai,.l aj,.l ak,.i al,.i am,.l an,.l ao,.l ap,.l aq,.l ar,.l aZ,.l au,.l av,.b aw,.i ax,.l ay,.l az,.l a0,.l a1,.l a2,.l a3,.l a4,.l a5]
noncomputable def WC (k:Nat) (a c d e f g h j m n o p q:Int) (r:Bool) (s t u v w x y z A C D E G H J K L M N O:Int) (P:LL) (Q R T U V W:Int) (X:Bool) (Y Z aa ab:LL) (ac ad:Int) (ae af ag ah ai aj ak al:LL) (am an:Int) (ao ap aq ar aZ au av aw:LL) (ax:Bool) (ay:Int) (az a0 a1 a2 a3 a4 a5 a6:LL):Option (Qt3):=ZaH.lp [0] 0 r0 k [.i a,.i c,.i d,.i e,.i f,.i g,.i h,.i j,.i m,.i n,.i o,.i p,.i q,.b r,.i s,.i t,.i u,.i v,.i w,.i x,.i y,.i z,.i A,.i C,.i D,.i E,.i G,.i H,.i J,.i K,.i L,.i M,.i N,.i O,.l P,.i Q,.i R,.i T,.i U,.i V,.i W,.b X,.l Y,.l Z,.l aa,.l ab,.i ac,.i ad,.l ae,.l af,.l ag,.l ah,.l ai,.l aj,.l ak,.l al,.i am,.i an,.l ao,.l ap,.l aq,.l ar,.l aZ,.l au,.l av,.l aw,.b ax,.i ay,.l az,.l a0,.l a1,.l a2,.l a3,.l a4,.l a5,.l a6]
theorem ZaC (k:Nat) (c b d e f g h i j l m n o:Int) (p:Bool) (q r s t u v w x y z A C D E G H J K L M:Int) (N:LL) (O P Q R T U:Int) (V:Bool) (W X Y Z:LL) (aa ab:Int) (ac ad ae af ag ah ai aj:LL) (ak al:Int) (am an ao ap aq ar aZ au:LL) (av:Bool) (aw:Int) (ax ay az a0 a1 a2 a3 a4:LL):WC (k+1) c b d e f g h i j l m n o p q r s t u v w x y z A C D E G H J K L M N O P Q R T U V W X Y Z aa ab ac ad ae af ag ah ai aj ak al am an ao ap aq ar aZ au av aw ax ay az a0 a1 a2 a3 a4 =
 (if (cop .lss b c) then
 (ZB2 (iop .sub .i64 b 1) b d e f g h i j l m n o p q r s t u v w x y z A C D E G H J K L M N O P Q R T U V W X Y Z aa ab ac ad ae af ag ah ai aj ak al am an ao ap aq ar aZ au av aw ax ay az a0 a1 a2 a3 a4).bind fun a=>
 if (!a.1) then
 some (false,a.2.1,a.2.2.1,a.2.2.2.1,a.2.2.2.2.1,a.2.2.2.2.2.1,a.2.2.2.2.2.2.1,a.2.2.2.2.2.2.2.1,a.2.2.2.2.2.2.2.2.1,a.2.2.2.2.2.2.2.2.2.1,a.2.2.2.2.2.2.2.2.2.2.1,a.2.2.2.2.2.2.2.2.2.2.2.1,(d4 (d8 a)).1,(d4 (d8 a)).2.1,(d2 (d4 (d8 a))).1,(d2 (d4 (d8 a))).2.1,(d16 a).1,(d16 a).2.1,(d2 (d16 a)).1,(d2 (d16 a)).2.1,(d4 (d16 a)).1,(d4 (d16 a)).2.1,(d2 (d4 (d16 a))).1,(d2 (d4 (d16 a))).2.1,(d8 (d16 a)).1,(d8 (d16 a)).2.1,(d2 (d8 (d16 a))).1,(d2 (d8 (d16 a))).2.1,(d4 (d8 (d16 a))).1,(d4 (d8 (d16 a))).2.1,(d2 (d4 (d8 (d16 a)))).1,(d2 (d4 (d8 (d16 a)))).2.1,(d16 (d16 a)).1,(d16 (d16 a)).2.1,(d2 (d16 (d16 a))).1,(d2 (d16 (d16 a))).2.1,(d4 (d16 (d16 a))).1,(d4 (d16 (d16 a))).2.1,(d2 (d4 (d16 (d16 a)))).1,(d2 (d4 (d16 (d16 a)))).2.1,(d8 (d16 (d16 a))).1,(d8 (d16 (d16 a))).2.1,(d2 (d8 (d16 (d16 a)))).1,(d2 (d8 (d16 (d16 a)))).2.1,(d4 (d8 (d16 (d16 a)))).1,(d4 (d8 (d16 (d16 a)))).2.1,(d2 (d4 (d8 (d16 (d16 a))))).1,(d2 (d4 (d8 (d16 (d16 a))))).2.1,(d16 (d16 (d16 a))).1,(d16 (d16 (d16 a))).2.1,(d2 (d16 (d16 (d16 a)))).1,(d2 (d16 (d16 (d16 a)))).2.1,(d4 (d16 (d16 (d16 a)))).1,(d4 (d16 (d16 (d16 a)))).2.1,(d2 (d4 (d16 (d16 (d16 a))))).1,(d2 (d4 (d16 (d16 (d16 a))))).2.1,(d8 (d16 (d16 (d16 a)))).1,(d8 (d16 (d16 (d16 a)))).2.1,(d2 (d8 (d16 (d16 (d16 a))))).1,(d2 (d8 (d16 (d16 (d16 a))))).2.1,(d4 (d8 (d16 (d16 (d16 a))))).1,(d4 (d8 (d16 (d16 (d16 a))))).2.1,(d2 (d4 (d8 (d16 (d16 (d16 a)))))).1,(d2 (d4 (d8 (d16 (d16 (d16 a)))))).2.1,(d16 (d16 (d16 (d16 a)))).1,(d16 (d16 (d16 (d16 a)))).2.1,(d2 (d16 (d16 (d16 (d16 a))))).1,(d2 (d16 (d16 (d16 (d16 a))))).2.1,(d4 (d16 (d16 (d16 (d16 a))))).1,(d4 (d16 (d16 (d16 (d16 a))))).2.1,(d2 (d4 (d16 (d16 (d16 (d16 a)))))).1,(d2 (d4 (d16 (d16 (d16 (d16 a)))))).2.1,(d8 (d16 (d16 (d16 (d16 a))))).1,(d8 (d16 (d16 (d16 (d16 a))))).2.1,(d2 (d8 (d16 (d16 (d16 (d16 a)))))))
 else
 WC k c (iop .add .i64 b 1) a.2.1 a.2.2.1 a.2.2.2.1 a.2.2.2.2.1 a.2.2.2.2.2.1 a.2.2.2.2.2.2.1 a.2.2.2.2.2.2.2.1 a.2.2.2.2.2.2.2.2.1 a.2.2.2.2.2.2.2.2.2.1 a.2.2.2.2.2.2.2.2.2.2.1 a.2.2.2.2.2.2.2.2.2.2.2.1 (d4 (d8 a)).1 (d4 (d8 a)).2.1 (d2 (d4 (d8 a))).1 (d2 (d4 (d8 a))).2.1 (d16 a).1 (d16 a).2.1 (d2 (d16 a)).1 (d2 (d16 a)).2.1 (d4 (d16 a)).1 (d4 (d16 a)).2.1 (d2 (d4 (d16 a))).1 (d2 (d4 (d16 a))).2.1 (d8 (d16 a)).1 (d8 (d16 a)).2.1 (d2 (d8 (d16 a))).1 (d2 (d8 (d16 a))).2.1 (d4 (d8 (d16 a))).1 (d4 (d8 (d16 a))).2.1 (d2 (d4 (d8 (d16 a)))).1 (d2 (d4 (d8 (d16 a)))).2.1 (d16 (d16 a)).1 (d16 (d16 a)).2.1 (d2 (d16 (d16 a))).1 (d2 (d16 (d16 a))).2.1 (d4 (d16 (d16 a))).1 (d4 (d16 (d16 a))).2.1 (d2 (d4 (d16 (d16 a)))).1 (d2 (d4 (d16 (d16 a)))).2.1 (d8 (d16 (d16 a))).1 (d8 (d16 (d16 a))).2.1 (d2 (d8 (d16 (d16 a)))).1 (d2 (d8 (d16 (d16 a)))).2.1 (d4 (d8 (d16 (d16 a)))).1 (d4 (d8 (d16 (d16 a)))).2.1 (d2 (d4 (d8 (d16 (d16 a))))).1 (d2 (d4 (d8 (d16 (d16 a))))).2.1 (d16 (d16 (d16 a))).1 (d16 (d16 (d16 a))).2.1 (d2 (d16 (d16 (d16 a)))).1 (d2 (d16 (d16 (d16 a)))).2.1 (d4 (d16 (d16 (d16 a)))).1 (d4 (d16 (d16 (d16 a)))).2.1 (d2 (d4 (d16 (d16 (d16 a))))).1 (d2 (d4 (d16 (d16 (d16 a))))).2.1 (d8 (d16 (d16 (d16 a)))).1 (d8 (d16 (d16 (d16 a)))).2.1 (d2 (d8 (d16 (d16 (d16 a))))).1 (d2 (d8 (d16 (d16 (d16 a))))).2.1 (d4 (d8 (d16 (d16 (d16 a))))).1 (d4 (d8 (d16 (d16 (d16 a))))).2.1 (d2 (d4 (d8 (d16 (d16 (d16 a)))))).1 (d2 (d4 (d8 (d16 (d16 (d16 a)))))).2.1 (d16 (d16 (d16 (d16 a)))).1 (d16 (d16 (d16 (d16 a)))).2.1 (d2 (d16 (d16 (d16 (d16 a))))).1 (d2 (d16 (d16 (d16 (d16 a))))).2.1 (d4 (d16 (d16 (d16 (d16 a))))).1 (d4 (d16 (d16 (d16 (d16 a))))).2.1 (d2 (d4 (d16 (d16 (d16 (d16 a)))))).1 (d2 (d4 (d16 (d16 (d16 (d16 a)))))).2.1 (d8 (d16 (d16 (d16 (d16 a))))).1 (d8 (d16 (d16 (d16 (d16 a))))).2.1 (d2 (d8 (d16 (d16 (d16 (d16 a))))))
 else
 some (true,d,e,f,g,h,i,j,l,m,n,o,p,q,r,s,t,u,v,w,x,y,z,A,C,D,E,G,H,J,K,L,M,N,O,P,Q,R,T,U,V,W,X,Y,Z,aa,ab,ac,ad,ae,af,ag,ah,ai,aj,ak,al,am,an,ao,ap,aq,ar,aZ,au,av,aw,ax,ay,az,a0,a1,a2,a3,a4)):=by kernel_rfl
theorem Zi2 (a b c d e f g h i j k l:Int) (m:Bool) (n o p q r s t u v w x y z A C D E G H J:Int) (K:LL) (L M N O P Q:Int) (R:Bool) (T U V W:LL) (X Y:Int) (Z aa ab ac ad ae af ag:LL) (ah ai:Int) (aj ak al am an ao ap aq:LL) (ar:Bool) (aZ:Int) (au av aw ax ay az a0 a1:LL):Zci a b c d e f g h i j k l m n o p q r s t u v w x y z A C D E G H J K L M N O P Q R T U V W X Y Z aa ab ac ad ae af ag ah ai aj ak al am an ao ap aq ar aZ au av aw ax ay az a0 a1 =
 (WC Zr a 1 b c d e f g h i j k l m n o p q r s t u v w x y z A C D E G H J K L M N O P Q R T U V W X Y Z aa ab ac ad ae af ag ah ai aj ak al am an ao ap aq ar aZ au av aw ax ay az a0 a1):=by kernel_rfl
noncomputable def Zyf:Fn:=⟨13,[2],[],[],0,[],[],Tryz.f108,[.agg [.int .i64,.int .i64]],[.c (.bool)],[(89,F89.S),(34,F34.S)]⟩
theorem ZBD:Zyf.S.Ok Tryz.prog 108:=Zyf.ok Tryz.func108 (by kernel_rfl) ⟨ZyU,⟨ZsG,trivial⟩⟩
noncomputable def Zz9 (a b:Int):Option (Bool):=Zyf.S.g [.i a,.i b]
theorem Zuf (a b:Int):Zz9 a b =
 ((g89 a).bind fun c=>
 if (!c) then
 some (true)
 else
 (g34 b).bind fun d=>
 some ((!d))):=by kernel_rfl
noncomputable def Zas:Fn:=⟨19,[4],[(2,[(0,.c (.slice 2)),(1,.clo 108 []),(7,.c (.int .i64)),(8,.c (.int .i64))])],[],0,[],[],Tryz.f178,[.c (.slice 2),.clo 108 []],[.c (.int .i64)],[(108,Zyf.S)]⟩
theorem Zni:Zas.S.Ok Tryz.prog 178:=Zas.ok Tryz.func178 (by kernel_rfl) ⟨ZBD,trivial⟩
noncomputable def Zga (a:LL):Option (Int):=Zas.S.g [.l a]
noncomputable def KS (k:Nat) (a:LL) (b c:Int):Option (Int):=Zas.lp [0] 0 r0 k [.l a,.i b,.i c]
theorem Zan (k:Nat) (b:LL) (c a:Int):KS (k+1) b c a =
 (if (cop .lss a c) then
 Zm b a [.int .i64,.int .i64] fun (d:Int×Int)=>
 (Zz9 d.1 d.2).bind fun e=>
 if e then
 some (a)
 else
 KS k b c (iop .add .i64 a 1)
 else
 some ((-1))):=by kernel_rfl
theorem ZiQ (a:LL):Zga a =
 (KS Zr a (List.length a:Int) 0):=by kernel_rfl
noncomputable def Zca:Fn:=⟨9,[4],[],[],0,[],[],Tryz.f107,[.c (.slice 2),.clo 108 []],[.c (.bool)],[(178,Zas.S)]⟩
theorem ZmO:Zca.S.Ok Tryz.prog 107:=Zca.ok Tryz.func107 (by kernel_rfl) ⟨Zni,trivial⟩
noncomputable def Zco (a:LL):Option (Bool):=Zca.S.g [.l a]
theorem Zit (a:LL):Zco a =
 ((Zga a).bind fun b=>
 some ((cop .geq b 0))):=by kernel_rfl
noncomputable def F35:Fn:=⟨114,[4],[],[],0,[],[],Tryz.f35,[.agg hs0,.c (.int .i64)],[.c (.bool)],[(89,F89.S),(90,F90.S),(91,F91.S),(92,F92.S),(93,ZjP.S),(96,F96.S),(97,ZkG.S),(33,F33.S),(100,Zcb.S),(102,ZaH.S),(104,Zyi.S),(105,Zut.S),(106,ZxU.S),(107,Zca.S)]⟩
theorem ZEk:F35.S.Ok Tryz.prog 35:=F35.ok Tryz.func35 (by kernel_rfl) ⟨ZyU,⟨ZCY,⟨ZyF,⟨ZC2,⟨Ztj,⟨ZDi,⟨Ztc,⟨ZAU,⟨Zn3,⟨Zoe,⟨ZAG,⟨ZxX,⟨ZvK,⟨ZmO,trivial⟩⟩⟩⟩⟩⟩⟩⟩⟩⟩⟩⟩⟩⟩
noncomputable def g35 (a c d e f h j k m n o:Int) (p:Bool) (q r s t u v w x y z A C D E G H J K L M:Int) (N:LL) (O P Q R T U:Int) (V:Bool) (W X Y Z:LL) (aa ab:Int) (ac ad ae af ag ah ai aj:LL) (ak al:Int) (am an ao ap aq ar aZ au:LL) (av:Bool) (aw:Int) (ax ay az a0 a1 a2 a3 a4:LL) (a5:Int):Option (Bool):=F35.S.g [.i a,.i c,.i d,.i e,.i f,.i h,.i j,.i k,.i m,.i n,.i o,.b p,.i q,.i r,.i s,.i t,.i u,.i v,.i w,.i x,.i y,.i z,.i A,.i C,.i D,.i E,.i G,.i H,.i J,.i K,.i L,.i M,.l N,.i O,.i P,.i Q,.i R,.i T,.i U,.b V,.l W,.l X,.l Y,.l Z,.i aa,.i ab,.l ac,.l ad,.l ae,.l af,.l ag,.l ah,.l ai,.l aj,.i ak,.i al,.l am,.l an,.l ao,.l ap,.l aq,.l ar,.l aZ,.l au,.b av,.i aw,.l ax,.l ay,.l az,.l a0,.l a1,.l a2,.l a3,.l a4,.i a5]
theorem K3 (g x1 x2 x3 h i j k l m n:Int) (a2:Bool) (o p q r s t u v w x y z A C D E G H J K:Int) (L:LL) (M N O P Q R:Int) (T:Bool) (d c e f:LL) (U V:Int) (W X Y Z aa ab ac ad:LL) (ae af:Int) (ag ah ai aj ak al am an:LL) (ao:Bool) (ap:Int) (aq ar aZ au av aw ax ay:LL) (b:Int):g35 g x1 x2 x3 h i j k l m n a2 o p q r s t u v w x y z A C D E G H J K L M N O P Q R T d c e f U V W X Y Z aa ab ac ad ae af ag ah ai aj ak al am an ao ap aq ar aZ au av aw ax ay b =
 (if (cop .eql b 0) then
 (g89 i).bind fun a=>
 some (a)
 else
 if (cop .eql b 1) then
 (g90 o p q r s t u v w x y z A C D E G H J K L M N O P Q R T).bind fun a=>
 some (a)
 else
 if (cop .eql b 2) then
 (g91 k l m).bind fun a=>
 some (a)
 else
 if (cop .eql b 3) then
 (g92 n).bind fun a=>
 some (a)
 else
 if (cop .eql b 5) then
 if (cop .gtr (List.length c:Int) 8) then
 some (false)
 else
 if (cop .eql g 4) then
 if (cop .neq (List.length c:Int) 1) then
 some (false)
 else
 (Zer c).bind fun a=>
 some ((!a))
 else
 (Zer c).bind fun a=>
 some ((!a))
 else
 if (cop .eql b 6) then
 (g96 j).bind fun a=>
 some (a)
 else
 if (cop .eql b 7) then
 if (cop .leq (List.length d:Int) 64) then
 (ZjR d).bind fun a=>
 some ((!a))
 else
 some (false)
 else
 if (cop .eql b 8) then
 (g33 h).bind fun a=>
 some (a)
 else
 if (cop .eql b 9) then
 (Zcg e).bind fun a=>
 if (!a) then
 (Zci (List.length e:Int) g x1 x2 x3 h i j k l m n a2 o p q r s t u v w x y z A C D E G H J K L M N O P Q R T d c e f U V W X Y Z aa ab ac ad ae af ag ah ai aj ak al am an ao ap aq ar aZ au av aw ax ay).bind fun a3=>
 some (a3.1)
 else
 some (false)
 else
 if (cop .eql b 10) then
 (Zzr ae af ag ah ai aj ak al am an ao ap aq ar aZ au av aw ax ay).bind fun a=>
 some (a)
 else
 if (cop .eql b 11) then
 (g33 U).bind fun a=>
 some (a)
 else
 if (cop .eql b 12) then
 (ZxY V W X).bind fun a=>
 some (a)
 else
 if (cop .eql b 13) then
 (Zxi Y Z aa ab ac ad).bind fun a=>
 some (a)
 else
 if (cop .eql b 14) then
 if (cop .leq (List.length f:Int) 16) then
 (Zco f).bind fun a=>
 some ((!a))
 else
 some (false)
 else
 some (true)):=by kernel_rfl
noncomputable def F36:Fn:=⟨85,[],[],[0],0,[],[],Tryz.f36,[.box hs0,.c (.int .i64)],[],[]⟩
theorem ZFc:F36.S.Ok Tryz.prog 36:=F36.ok Tryz.func36 (by kernel_rfl) trivial
noncomputable def g36 (a c d e f h j k m n o:Int) (p:Bool) (q r s t u v w x y z A C D E G H J K L M:Int) (N:LL) (O P Q R T U:Int) (V:Bool) (W X Y Z:LL) (aa ab:Int) (ac ad ae af ag ah ai aj:LL) (ak al:Int) (am an ao ap aq ar aZ au:LL) (av:Bool) (aw:Int) (ax ay az a0 a1 a2 a3 a4:LL) (a5:Int):Option (Qt5):=F36.S.g [.i a,.i c,.i d,.i e,.i f,.i h,.i j,.i k,.i m,.i n,.i o,.b p,.i q,.i r,.i s,.i t,.i u,.i v,.i w,.i x,.i y,.i z,.i A,.i C,.i D,.i E,.i G,.i H,.i J,.i K,.i L,.i M,.l N,.i O,.i P,.i Q,.i R,.i T,.i U,.b V,.l W,.l X,.l Y,.l Z,.i aa,.i ab,.l ac,.l ad,.l ae,.l af,.l ag,.l ah,.l ai,.l aj,.i ak,.i al,.l am,.l an,.l ao,.l ap,.l aq,.l ar,.l aZ,.l au,.b av,.i aw,.l ax,.l ay,.l az,.l a0,.l a1,.l a2,.l a3,.l a4,.i a5]
theorem KX (a b c d e f g h i j k:Int) (l:Bool) (m n o p q r s t u v w x y z A C D E G H:Int) (J:LL) (K L M N O P:Int) (Q:Bool) (R T U V:LL) (W X:Int) (Y Z aa ab ac ad ae af:LL) (ag ah:Int) (ai aj ak al am an ao ap:LL) (aq:Bool) (ar:Int) (aZ au av aw ax ay az a0:LL) (a1:Int):g36 a b c d e f g h i j k l m n o p q r s t u v w x y z A C D E G H J K L M N O P Q R T U V W X Y Z aa ab ac ad ae af ag ah ai aj ak al am an ao ap aq ar aZ au av aw ax ay az a0 a1 =
 (if (cop .eql a1 0) then
 some (a,b,c,d,e,0,g,h,i,j,k,l,m,n,o,p,q,r,s,t,u,v,w,x,y,z,A,C,D,E,G,H,J,K,L,M,N,O,P,Q,R,T,U,V,W,X,Y,Z,aa,ab,ac,ad,ae,af,ag,ah,ai,aj,ak,al,am,an,ao,ap,aq,ar,aZ,au,av,aw,ax,ay,az,a0)
 else
 if (cop .eql a1 1) then
 some (a,b,c,d,e,f,g,h,i,j,k,l,0,0,0,0,0,0,0,0,0,0,0,0,0,0,0,0,0,0,0,0,E0,0,0,0,0,0,0,false,R,T,U,V,W,X,Y,Z,aa,ab,ac,ad,ae,af,ag,ah,ai,aj,ak,al,am,an,ao,ap,aq,ar,aZ,au,av,aw,ax,ay,az,a0)
 else
 if (cop .eql a1 2) then
 some (a,b,c,d,e,f,g,0,0,0,k,l,m,n,o,p,q,r,s,t,u,v,w,x,y,z,A,C,D,E,G,H,J,K,L,M,N,O,P,Q,R,T,U,V,W,X,Y,Z,aa,ab,ac,ad,ae,af,ag,ah,ai,aj,ak,al,am,an,ao,ap,aq,ar,aZ,au,av,aw,ax,ay,az,a0)
 else
 if (cop .eql a1 3) then
 some (a,b,c,d,e,f,g,h,i,j,0,l,m,n,o,p,q,r,s,t,u,v,w,x,y,z,A,C,D,E,G,H,J,K,L,M,N,O,P,Q,R,T,U,V,W,X,Y,Z,aa,ab,ac,ad,ae,af,ag,ah,ai,aj,ak,al,am,an,ao,ap,aq,ar,aZ,au,av,aw,ax,ay,az,a0)
 else
 if (cop .eql a1 4) then
 some (a,b,c,d,e,f,g,h,i,j,k,false,m,n,o,p,q,r,s,t,u,v,w,x,y,z,A,C,D,E,G,H,J,K,L,M,N,O,P,Q,R,T,U,V,W,X,Y,Z,aa,ab,ac,ad,ae,af,ag,ah,ai,aj,ak,al,am,an,ao,ap,aq,ar,aZ,au,av,aw,ax,ay,az,a0)
 else
 if (cop .eql a1 5) then
 some (a,b,c,d,e,f,g,h,i,j,k,l,m,n,o,p,q,r,s,t,u,v,w,x,y,z,A,C,D,E,G,H,J,K,L,M,N,O,P,Q,R,E0,U,V,W,X,Y,Z,aa,ab,ac,ad,ae,af,ag,ah,ai,aj,ak,al,am,an,ao,ap,aq,ar,aZ,au,av,aw,ax,ay,az,a0)
 else
 if (cop .eql a1 6) then
 some (a,b,c,d,e,f,0,h,i,j,k,l,m,n,o,p,q,r,s,t,u,v,w,x,y,z,A,C,D,E,G,H,J,K,L,M,N,O,P,Q,R,T,U,V,W,X,Y,Z,aa,ab,ac,ad,ae,af,ag,ah,ai,aj,ak,al,am,an,ao,ap,aq,ar,aZ,au,av,aw,ax,ay,az,a0)
 else
 if (cop .eql a1 7) then
 some (a,b,c,d,e,f,g,h,i,j,k,l,m,n,o,p,q,r,s,t,u,v,w,x,y,z,A,C,D,E,G,H,J,K,L,M,N,O,P,Q,E0,T,U,V,W,X,Y,Z,aa,ab,ac,ad,ae,af,ag,ah,ai,aj,ak,al,am,an,ao,ap,aq,ar,aZ,au,av,aw,ax,ay,az,a0)
 else
 if (cop .eql a1 8) then
 some (a,b,c,d,0,f,g,h,i,j,k,l,m,n,o,p,q,r,s,t,u,v,w,x,y,z,A,C,D,E,G,H,J,K,L,M,N,O,P,Q,R,T,U,V,W,X,Y,Z,aa,ab,ac,ad,ae,af,ag,ah,ai,aj,ak,al,am,an,ao,ap,aq,ar,aZ,au,av,aw,ax,ay,az,a0)
 else
 if (cop .eql a1 9) then
 some (a,b,c,d,e,f,g,h,i,j,k,l,m,n,o,p,q,r,s,t,u,v,w,x,y,z,A,C,D,E,G,H,J,K,L,M,N,O,P,Q,R,T,E0,V,W,X,Y,Z,aa,ab,ac,ad,ae,af,ag,ah,ai,aj,ak,al,am,an,ao,ap,aq,ar,aZ,au,av,aw,ax,ay,az,a0)
 else
 if (cop .eql a1 10) then
 some (a,b,c,d,e,f,g,h,i,j,k,l,m,n,o,p,q,r,s,t,u,v,w,x,y,z,A,C,D,E,G,H,J,K,L,M,N,O,P,Q,R,T,U,V,W,X,Y,Z,aa,ab,ac,ad,ae,af,0,0,E0,E0,E0,E0,E0,E0,E0,E0,false,0,E0,E0,E0,E0,E0,E0,E0,E0)
 else
 if (cop .eql a1 11) then
 some (a,b,c,d,e,f,g,h,i,j,k,l,m,n,o,p,q,r,s,t,u,v,w,x,y,z,A,C,D,E,G,H,J,K,L,M,N,O,P,Q,R,T,U,V,0,X,Y,Z,aa,ab,ac,ad,ae,af,ag,ah,ai,aj,ak,al,am,an,ao,ap,aq,ar,aZ,au,av,aw,ax,ay,az,a0)
 else
 if (cop .eql a1 12) then
 some (a,b,c,d,e,f,g,h,i,j,k,l,m,n,o,p,q,r,s,t,u,v,w,x,y,z,A,C,D,E,G,H,J,K,L,M,N,O,P,Q,R,T,U,V,W,0,E0,E0,aa,ab,ac,ad,ae,af,ag,ah,ai,aj,ak,al,am,an,ao,ap,aq,ar,aZ,au,av,aw,ax,ay,az,a0)
 else
 if (cop .eql a1 13) then
 some (a,b,c,d,e,f,g,h,i,j,k,l,m,n,o,p,q,r,s,t,u,v,w,x,y,z,A,C,D,E,G,H,J,K,L,M,N,O,P,Q,R,T,U,V,W,X,Y,Z,E0,E0,E0,E0,E0,E0,ag,ah,ai,aj,ak,al,am,an,ao,ap,aq,ar,aZ,au,av,aw,ax,ay,az,a0)
 else
 if (cop .eql a1 14) then
 some (a,b,c,d,e,f,g,h,i,j,k,l,m,n,o,p,q,r,s,t,u,v,w,x,y,z,A,C,D,E,G,H,J,K,L,M,N,O,P,Q,R,T,U,E0,W,X,Y,Z,aa,ab,ac,ad,ae,af,ag,ah,ai,aj,ak,al,am,an,ao,ap,aq,ar,aZ,au,av,aw,ax,ay,az,a0)
 else
 some (a,b,c,d,e,f,g,h,i,j,k,l,m,n,o,p,q,r,s,t,u,v,w,x,y,z,A,C,D,E,G,H,J,K,L,M,N,O,P,Q,R,T,U,V,W,X,Y,Z,aa,ab,ac,ad,ae,af,ag,ah,ai,aj,ak,al,am,an,ao,ap,aq,ar,aZ,au,av,aw,ax,ay,az,a0)):=by kernel_rfl
noncomputable def ZyX:Fn:=⟨29,[2],[],[],0,[],[],Tryz.f109,[.agg hs6],[.c (.bool)],[(164,ZuH.S)]⟩
theorem ZBg:ZyX.S.Ok Tryz.prog 109:=ZyX.ok Tryz.func109 (by kernel_rfl) ⟨Zr5,trivial⟩
noncomputable def ZAc (a c d e f h j k m n o p q r s t u v w x:Int) (y:LL) (z A C D E G:Int) (H:Bool):Option (Bool):=ZyX.S.g [.i a,.i c,.i d,.i e,.i f,.i h,.i j,.i k,.i m,.i n,.i o,.i p,.i q,.i r,.i s,.i t,.i u,.i v,.i w,.i x,.l y,.i z,.i A,.i C,.i D,.i E,.i G,.b H]
theorem ZtN (a b c d e f g h i j k l m n o p q r s t:Int) (u:LL) (v w x y z A:Int) (C:Bool):ZAc a b c d e f g h i j k l m n o p q r s t u v w x y z A C =
 (if ((cop .eql a 0)&&((cop .eql b 0)&&((cop .eql c 0)&&true))) then
 if ((cop .eql d 0)&&((cop .eql e 0)&&((cop .eql f 0)&&((cop .eql g 0)&&((cop .eql h 0)&&((cop .eql i 0)&&((cop .eql j 0)&&((cop .eql k 0)&&((cop .eql l 0)&&((cop .eql m 0)&&((cop .eql n 0)&&((cop .eql o 0)&&true)))))))))))) then
 if (cop .eql p 0) then
 if (cop .eql q 0) then
 (ZtB r s t u v w x y z A C 0 0 0 E0 0 0 0 0 0 0 false).bind fun D=>
 some (D)
 else
 some (false)
 else
 some (false)
 else
 some (false)
 else
 some (false)):=by kernel_rfl
noncomputable def ZuZ:Fn:=⟨18,[2],[],[],0,[],[],Tryz.f110,[.agg [.int .i64,.slice 1,.slice 1]],[.c (.bool)],[]⟩
theorem Zx1:ZuZ.S.Ok Tryz.prog 110:=ZuZ.ok Tryz.func110 (by kernel_rfl) trivial
noncomputable def ZvS (a:Int) (b c:LL):Option (Bool):=ZuZ.S.g [.i a,.l b,.l c]
theorem ZrR (a:Int) (b c:LL):ZvS a b c =
 (if (cop .eql a 0) then
 if (cop .eql (List.length b:Int) 0) then
 some ((cop .eql (List.length c:Int) 0))
 else
 some (false)
 else
 some (false)):=by kernel_rfl
noncomputable def Zwr:Fn:=⟨37,[2],[],[],0,[],[],Tryz.f111,[.agg hs30],[.c (.bool)],[]⟩
theorem Zx6:Zwr.S.Ok Tryz.prog 111:=Zwr.ok Tryz.func111 (by kernel_rfl) trivial
noncomputable def ZuV (a b c d e f:LL):Option (Bool):=Zwr.S.g [.l a,.l b,.l c,.l d,.l e,.l f]
theorem ZsZ (a b c d e f:LL):ZuV a b c d e f =
 (if (cop .eql (List.length a:Int) 0) then
 if (cop .eql (List.length b:Int) 0) then
 if (cop .eql (List.length c:Int) 0) then
 if (cop .eql (List.length d:Int) 0) then
 if (cop .eql (List.length e:Int) 0) then
 some ((cop .eql (List.length f:Int) 0))
 else
 some (false)
 else
 some (false)
 else
 some (false)
 else
 some (false)
 else
 some (false)):=by kernel_rfl
noncomputable def ZyK:Fn:=⟨31,[2],[],[],0,[],[],Tryz.f112,[.agg hs7],[.c (.bool)],[(110,ZuZ.S),(111,Zwr.S)]⟩
theorem ZAQ:ZyK.S.Ok Tryz.prog 112:=ZyK.ok Tryz.func112 (by kernel_rfl) ⟨Zx1,⟨Zx6,trivial⟩⟩
noncomputable def ZAR (a c:Int) (d e f h j k m n:LL) (o:Bool) (p:Int) (q r s t u v w x:LL):Option (Bool):=ZyK.S.g [.i a,.i c,.l d,.l e,.l f,.l h,.l j,.l k,.l m,.l n,.b o,.i p,.l q,.l r,.l s,.l t,.l u,.l v,.l w,.l x]
theorem ZrQ (a b:Int) (c d e f g h i j:LL) (k:Bool) (l:Int) (m n o p q r s t:LL):ZAR a b c d e f g h i j k l m n o p q r s t =
 (if (cop .eql a 0) then
 (ZvS b c d).bind fun u=>
 if u then
 (ZuV e f g h i j).bind fun v=>
 if v then
 if (!k) then
 (ZvS l m n).bind fun w=>
 if w then
 (ZuV o p q r s t).bind fun x=>
 some (x)
 else
 some (false)
 else
 some (false)
 else
 some (false)
 else
 some (false)
 else
 some (false)):=by kernel_rfl
noncomputable def F37:Fn:=⟨81,[2],[],[],0,[],[],Tryz.f37,[.agg hs0],[.c (.bool)],[(109,ZyX.S),(110,ZuZ.S),(111,Zwr.S),(112,ZyK.S)]⟩
theorem ZEm:F37.S.Ok Tryz.prog 37:=F37.ok Tryz.func37 (by kernel_rfl) ⟨ZBg,⟨Zx1,⟨Zx6,⟨ZAQ,trivial⟩⟩⟩⟩
noncomputable def g37 (a c d e f h j k m n o:Int) (p:Bool) (q r s t u v w x y z A C D E G H J K L M:Int) (N:LL) (O P Q R T U:Int) (V:Bool) (W X Y Z:LL) (aa ab:Int) (ac ad ae af ag ah ai aj:LL) (ak al:Int) (am an ao ap aq ar aZ au:LL) (av:Bool) (aw:Int) (ax ay az a0 a1 a2 a3 a4:LL):Option (Bool):=F37.S.g [.i a,.i c,.i d,.i e,.i f,.i h,.i j,.i k,.i m,.i n,.i o,.b p,.i q,.i r,.i s,.i t,.i u,.i v,.i w,.i x,.i y,.i z,.i A,.i C,.i D,.i E,.i G,.i H,.i J,.i K,.i L,.i M,.l N,.i O,.i P,.i Q,.i R,.i T,.i U,.b V,.l W,.l X,.l Y,.l Z,.i aa,.i ab,.l ac,.l ad,.l ae,.l af,.l ag,.l ah,.l ai,.l aj,.i ak,.i al,.l am,.l an,.l ao,.l ap,.l aq,.l ar,.l aZ,.l au,.b av,.i aw,.l ax,.l ay,.l az,.l a0,.l a1,.l a2,.l a3,.l a4]
theorem Zwy (x0 x1 x2 x3 a b c d e f g:Int) (h:Bool) (i j k l m n o p q r s t u v w x y z A C:Int) (D:LL) (E G H J K L:Int) (M:Bool) (N O P Q:LL) (R T:Int) (U V W X Y Z aa ab:LL) (ac ad:Int) (ae af ag ah ai aj ak al:LL) (am:Bool) (an:Int) (ao ap aq ar aZ au av aw:LL):g37 x0 x1 x2 x3 a b c d e f g h i j k l m n o p q r s t u v w x y z A C D E G H J K L M N O P Q R T U V W X Y Z aa ab ac ad ae af ag ah ai aj ak al am an ao ap aq ar aZ au av aw =
 (if (cop .eql a 0) then
 if (cop .eql b 0) then
 if (cop .eql c 0) then
 if ((cop .eql d 0)&&((cop .eql e 0)&&((cop .eql f 0)&&true))) then
 if (cop .eql g 0) then
 if (!h) then
 (ZAc i j k l m n o p q r s t u v w x y z A C D E G H J K L M).bind fun a1=>
 if a1 then
 if (cop .eql (List.length N:Int) 0) then
 if (cop .eql (List.length O:Int) 0) then
 if (cop .eql (List.length P:Int) 0) then
 if (cop .eql (List.length Q:Int) 0) then
 if (cop .eql R 0) then
 (ZvS T U V).bind fun a2=>
 if a2 then
 (ZuV W X Y Z aa ab).bind fun a3=>
 if a3 then
 (ZAR ac ad ae af ag ah ai aj ak al am an ao ap aq ar aZ au av aw).bind fun a4=>
 some (a4)
 else
 some (false)
 else
 some (false)
 else
 some (false)
 else
 some (false)
 else
 some (false)
 else
 some (false)
 else
 some (false)
 else
 some (false)
 else
 some (false)
 else
 some (false)
 else
 some (false)
 else
 some (false)
 else
 some (false)
 else
 some (false)):=by kernel_rfl
noncomputable def F12:Fn:=⟨50,[2],[(6,[(1,.box hs0),(5,.box hs0),(35,.c (.slice 1)),(36,.c (.int .i64)),(37,.c (.int .i64))])],[],0,[],[],Tryz.f12,[.agg hs0],[.c (.bool)],[(32,F32.S),(33,F33.S),(34,F34.S),(35,F35.S),(36,F36.S),(37,F37.S)]⟩
theorem ZzW:F12.S.Ok Tryz.prog 12:=F12.ok Tryz.func12 (by kernel_rfl) ⟨ZA8,⟨ZAU,⟨ZsG,⟨ZEk,⟨ZFc,⟨ZEm,trivial⟩⟩⟩⟩⟩⟩
noncomputable def g12 (a c d e f h j k m n o:Int) (p:Bool) (q r s t u v w x y z A C D E G H J K L M:Int) (N:LL) (O P Q R T U:Int) (V:Bool) (W X Y Z:LL) (aa ab:Int) (ac ad ae af ag ah ai aj:LL) (ak al:Int) (am an ao ap aq ar aZ au:LL) (av:Bool) (aw:Int) (ax ay az a0 a1 a2 a3 a4:LL):Option (Bool):=F12.S.g [.i a,.i c,.i d,.i e,.i f,.i h,.i j,.i k,.i m,.i n,.i o,.b p,.i q,.i r,.i s,.i t,.i u,.i v,.i w,.i x,.i y,.i z,.i A,.i C,.i D,.i E,.i G,.i H,.i J,.i K,.i L,.i M,.l N,.i O,.i P,.i Q,.i R,.i T,.i U,.b V,.l W,.l X,.l Y,.l Z,.i aa,.i ab,.l ac,.l ad,.l ae,.l af,.l ag,.l ah,.l ai,.l aj,.i ak,.i al,.l am,.l an,.l ao,.l ap,.l aq,.l ar,.l aZ,.l au,.b av,.i aw,.l ax,.l ay,.l az,.l a0,.l a1,.l a2,.l a3,.l a4]
noncomputable def Zp9 (k:Nat) (a c d e f g h j m n o:Int) (p:Bool) (q r s t u v w x y z A C D E G H J K L M:Int) (N:LL) (O P Q R T U:Int) (V:Bool) (W X Y Z:LL) (aa ab:Int) (ac ad ae af ag ah ai aj:LL) (ak al:Int) (am an ao ap aq ar aZ au:LL) (av:Bool) (aw:Int) (ax ay az a0 a1 a2 a3 a4:LL) (a5 a6 a7 a8 a9 ba bb bc bd be bf:Int) (bg:Bool) (bh bi bj bk bl bm bn bo bp bq br bs bt bu bv bw bx bz b0 b1:Int) (b2:LL) (b3 b4 b5 b6 b7 b8:Int) (b9:Bool) (ca cb cc cd:LL) (ce cf:Int) (cg ch ci cj ck cl cm cn:LL) (co cp:Int) (cq cr cs ct cu cv cw cx:LL) (cy:Bool) (cz:Int) (c0 c1 c2 c3 c4 c5 c6 c7 c8:LL) (c9 da:Int):Option (Bool):=F12.lp [0,1,0,1,0,1,0,1,0] 0 r0 k [.i a,.i c,.i d,.i e,.i f,.i g,.i h,.i j,.i m,.i n,.i o,.b p,.i q,.i r,.i s,.i t,.i u,.i v,.i w,.i x,.i y,.i z,.i A,.i C,.i D,.i E,.i G,.i H,.i J,.i K,.i L,.i M,.l N,.i O,.i P,.i Q,.i R,.i T,.i U,.b V,.l W,.l X,.l Y,.l Z,.i aa,.i ab,.l ac,.l ad,.l ae,.l af,.l ag,.l ah,.l ai,.l aj,.i ak,.i al,.l am,.l an,.l ao,.l ap,.l aq,.l ar,.l aZ,.l au,.b av,.i aw,.l ax,.l ay,.l az,.l a0,.l a1,.l a2,.l a3,.l a4,.i a5,.i a6,.i a7,.i a8,.i a9,.i ba,.i bb,.i bc,.i bd,.i be,.i bf,.b bg,.i bh,.i bi,.i bj,.i bk,.i bl,.i bm,.i bn,.i bo,.i bp,.i bq,.i br,.i bs,.i bt,.i bu,.i bv,.i bw,.i bx,.i bz,.i b0,.i b1,.l b2,.i b3,.i b4,.i b5,.i b6,.i b7,.i b8,.b b9,.l ca,.l cb,.l cc,.l cd,.i ce,.i cf,.l cg,.l ch,.l ci,.l cj,.l ck,.l cl,.l cm,.l cn,.i co,.i cp,.l cq,.l cr,.l cs,.l ct,.l cu,.l cv,.l cw,.l cx,.b cy,.i cz,.l c0,.l c1,.l c2,.l c3,.l c4,.l c5,.l c6,.l c7,.l c8,.i c9,.i da]
theorem ZkF (k:Nat) (d e f g h i j l m n o:Int) (p:Bool) (q r s t u v w x y z A C D E G H J K L M:Int) (N:LL) (O P Q R T U:Int) (V:Bool) (W X Y Z:LL) (aa ab:Int) (ac ad ae af ag ah ai aj:LL) (ak al:Int) (am an ao ap aq ar aZ au:LL) (av:Bool) (aw:Int) (ax ay az a0 a1 a2 a3 a4:LL) (a5 a6 a7 a8 a9 ba bb bc bd be bf:Int) (bg:Bool) (bh bi bj bk bl bm bn bo bp bq br bs bt bu bv bw bx bz b0 b1:Int) (b2:LL) (b3 b4 b5 b6 b7 b8:Int) (b9:Bool) (ca cb cc cd:LL) (ce cf:Int) (cg ch ci cj ck cl cm cn:LL) (co cp:Int) (cq cr cs ct cu cv cw cx:LL) (cy:Bool) (cz:Int) (c0 c1 c2 c3 c4 c5 c6 c7 c8:LL) (c9 b:Int):Zp9 (k+1) d e f g h i j l m n o p q r s t u v w x y z A C D E G H J K L M N O P Q R T U V W X Y Z aa ab ac ad ae af ag ah ai aj ak al am an ao ap aq ar aZ au av aw ax ay az a0 a1 a2 a3 a4 a5 a6 a7 a8 a9 ba bb bc bd be bf bg bh bi bj bk bl bm bn bo bp bq br bs bt bu bv bw bx bz b0 b1 b2 b3 b4 b5 b6 b7 b8 b9 ca cb cc cd ce cf cg ch ci cj ck cl cm cn co cp cq cr cs ct cu cv cw cx cy cz c0 c1 c2 c3 c4 c5 c6 c7 c8 c9 b =
 (if (cop .lss b c9) then
 Zm c8 b [.int .i64] fun (c:Int)=>
 (g35 d e f g h i j l m n o p q r s t u v w x y z A C D E G H J K L M N O P Q R T U V W X Y Z aa ab ac ad ae af ag ah ai aj ak al am an ao ap aq ar aZ au av aw ax ay az a0 a1 a2 a3 a4 c).bind fun da=>
 if (!da) then
 some (false)
 else
 (g36 a5 a6 a7 a8 a9 ba bb bc bd be bf bg bh bi bj bk bl bm bn bo bp bq br bs bt bu bv bw bx bz b0 b1 b2 b3 b4 b5 b6 b7 b8 b9 ca cb cc cd ce cf cg ch ci cj ck cl cm cn co cp cq cr cs ct cu cv cw cx cy cz c0 c1 c2 c3 c4 c5 c6 c7 c).bind fun a=>
 Zp9 k d e f g h i j l m n o p q r s t u v w x y z A C D E G H J K L M N O P Q R T U V W X Y Z aa ab ac ad ae af ag ah ai aj ak al am an ao ap aq ar aZ au av aw ax ay az a0 a1 a2 a3 a4 a.1 a.2.1 a.2.2.1 a.2.2.2.1 a.2.2.2.2.1 a.2.2.2.2.2.1 a.2.2.2.2.2.2.1 a.2.2.2.2.2.2.2.1 a.2.2.2.2.2.2.2.2.1 a.2.2.2.2.2.2.2.2.2.1 a.2.2.2.2.2.2.2.2.2.2.1 a.2.2.2.2.2.2.2.2.2.2.2.1 (d4 (d8 a)).1 (d4 (d8 a)).2.1 (d2 (d4 (d8 a))).1 (d2 (d4 (d8 a))).2.1 (d16 a).1 (d16 a).2.1 (d2 (d16 a)).1 (d2 (d16 a)).2.1 (d4 (d16 a)).1 (d4 (d16 a)).2.1 (d2 (d4 (d16 a))).1 (d2 (d4 (d16 a))).2.1 (d8 (d16 a)).1 (d8 (d16 a)).2.1 (d2 (d8 (d16 a))).1 (d2 (d8 (d16 a))).2.1 (d4 (d8 (d16 a))).1 (d4 (d8 (d16 a))).2.1 (d2 (d4 (d8 (d16 a)))).1 (d2 (d4 (d8 (d16 a)))).2.1 (d16 (d16 a)).1 (d16 (d16 a)).2.1 (d2 (d16 (d16 a))).1 (d2 (d16 (d16 a))).2.1 (d4 (d16 (d16 a))).1 (d4 (d16 (d16 a))).2.1 (d2 (d4 (d16 (d16 a)))).1 (d2 (d4 (d16 (d16 a)))).2.1 (d8 (d16 (d16 a))).1 (d8 (d16 (d16 a))).2.1 (d2 (d8 (d16 (d16 a)))).1 (d2 (d8 (d16 (d16 a)))).2.1 (d4 (d8 (d16 (d16 a)))).1 (d4 (d8 (d16 (d16 a)))).2.1 (d2 (d4 (d8 (d16 (d16 a))))).1 (d2 (d4 (d8 (d16 (d16 a))))).2.1 (d16 (d16 (d16 a))).1 (d16 (d16 (d16 a))).2.1 (d2 (d16 (d16 (d16 a)))).1 (d2 (d16 (d16 (d16 a)))).2.1 (d4 (d16 (d16 (d16 a)))).1 (d4 (d16 (d16 (d16 a)))).2.1 (d2 (d4 (d16 (d16 (d16 a))))).1 (d2 (d4 (d16 (d16 (d16 a))))).2.1 (d8 (d16 (d16 (d16 a)))).1 (d8 (d16 (d16 (d16 a)))).2.1 (d2 (d8 (d16 (d16 (d16 a))))).1 (d2 (d8 (d16 (d16 (d16 a))))).2.1 (d4 (d8 (d16 (d16 (d16 a))))).1 (d4 (d8 (d16 (d16 (d16 a))))).2.1 (d2 (d4 (d8 (d16 (d16 (d16 a)))))).1 (d2 (d4 (d8 (d16 (d16 (d16 a)))))).2.1 (d16 (d16 (d16 (d16 a)))).1 (d16 (d16 (d16 (d16 a)))).2.1 (d2 (d16 (d16 (d16 (d16 a))))).1 (d2 (d16 (d16 (d16 (d16 a))))).2.1 (d4 (d16 (d16 (d16 (d16 a))))).1 (d4 (d16 (d16 (d16 (d16 a))))).2.1 (d2 (d4 (d16 (d16 (d16 (d16 a)))))).1 (d2 (d4 (d16 (d16 (d16 (d16 a)))))).2.1 (d8 (d16 (d16 (d16 (d16 a))))).1 (d8 (d16 (d16 (d16 (d16 a))))).2 c8 c9 (iop .add .i64 b 1)
 else
 (g37 a5 a6 a7 a8 a9 ba bb bc bd be bf bg bh bi bj bk bl bm bn bo bp bq br bs bt bu bv bw bx bz b0 b1 b2 b3 b4 b5 b6 b7 b8 b9 ca cb cc cd ce cf cg ch ci cj ck cl cm cn co cp cq cr cs ct cu cv cw cx cy cz c0 c1 c2 c3 c4 c5 c6 c7).bind fun c=>
 some (c)):=by kernel_rfl
theorem Zvq (a b c d e f g h i j k:Int) (l:Bool) (m n o p q r s t u v w x y z A C D E G H:Int) (J:LL) (K L M N O P:Int) (Q:Bool) (R T U V:LL) (W X:Int) (Y Z aa ab ac ad ae af:LL) (ag ah:Int) (ai aj ak al am an ao ap:LL) (aq:Bool) (ar:Int) (aZ au av aw ax ay az a0:LL):g12 a b c d e f g h i j k l m n o p q r s t u v w x y z A C D E G H J K L M N O P Q R T U V W X Y Z aa ab ac ad ae af ag ah ai aj ak al am an ao ap aq ar aZ au av aw ax ay az a0 =
 ((g32 a).bind fun a1=>
 if (!a1.2) then
 some (false)
 else
 (g33 b).bind fun a2=>
 if (!a2) then
 some (false)
 else
 (g34 c).bind fun a3=>
 if (!a3) then
 some (false)
 else
 (g34 d).bind fun a4=>
 if (!a4) then
 some (false)
 else
 Zp9 Zr a b c d e f g h i j k l m n o p q r s t u v w x y z A C D E G H J K L M N O P Q R T U V W X Y Z aa ab ac ad ae af ag ah ai aj ak al am an ao ap aq ar aZ au av aw ax ay az a0 a b c d e f g h i j k l m n o p q r s t u v w x y z A C D E G H J K L M N O P Q R T U V W X Y Z aa ab ac ad ae af ag ah ai aj ak al am an ao ap aq ar aZ au av aw ax ay az a0 a1.1 (List.length a1.1:Int) 0):=by kernel_rfl
noncomputable def F50:Fn:=⟨9,[2],[],[],0,[],[],Tryz.f50,[.c (.int .i64)],[.c (.bool)],[]⟩
theorem ZDc:F50.S.Ok Tryz.prog 50:=F50.ok Tryz.func50 (by kernel_rfl) trivial
noncomputable def g50 (a:Int):Option (Bool):=F50.S.g [.i a]
theorem Zve (a:Int):g50 a =
 (if (cop .geq a 0) then
 some ((cop .leq a 1073741824))
 else
 some (false)):=by kernel_rfl
noncomputable def F51:Fn:=⟨9,[2],[],[],0,[],[],Tryz.f51,[.c (.int .i64)],[.c (.bool)],[]⟩
theorem Zup:F51.S.Ok Tryz.prog 51:=F51.ok Tryz.func51 (by kernel_rfl) trivial
noncomputable def g51 (a:Int):Option (Bool):=F51.S.g [.i a]
theorem ZxV (a:Int):g51 a =
 (if (cop .geq a 0) then
 some ((cop .lss a 32))
 else
 some (false)):=by kernel_rfl
noncomputable def Zrj:Fn:=⟨31,[2],[],[],0,[],[],Tryz.f128,[.agg [.int .i64,.int .i64,.int .i64]],[.c (.bool)],[]⟩
theorem Znb:Zrj.S.Ok Tryz.prog 128:=Zrj.ok Tryz.func128 (by kernel_rfl) trivial
noncomputable def Zq1 (a b c:Int):Option (Bool):=Zrj.S.g [.i a,.i b,.i c]
theorem Ztk (a b c:Int):Zq1 a b c =
 (if (cop .geq a 0) then
 if (cop .lss a 32) then
 if (cop .geq b 1) then
 if (cop .leq b 1073741824) then
 if (cop .geq c 0) then
 some ((cop .lss c 8))
 else
 some (false)
 else
 some (false)
 else
 some (false)
 else
 some (false)
 else
 some (false)):=by kernel_rfl
noncomputable def F53:Fn:=⟨10,[2],[],[],0,[],[],Tryz.f53,[.agg [.int .i64,.int .i64,.int .i64]],[.c (.bool)],[(128,Zrj.S)]⟩
theorem ZBX:F53.S.Ok Tryz.prog 53:=F53.ok Tryz.func53 (by kernel_rfl) ⟨Znb,trivial⟩
noncomputable def g53 (a b c:Int):Option (Bool):=F53.S.g [.i a,.i b,.i c]
theorem ZxN (b c a:Int):g53 b c a =
 ((Zq1 b c a).bind fun d=>
 if d then
 some ((cop .eql a 0))
 else
 some (false)):=by kernel_rfl
noncomputable def F62:Fn:=⟨9,[2],[],[],0,[],[],Tryz.f62,[.c (.int .i64)],[.c (.bool)],[]⟩
theorem ZyP:F62.S.Ok Tryz.prog 62:=F62.ok Tryz.func62 (by kernel_rfl) trivial
noncomputable def g62 (a:Int):Option (Bool):=F62.S.g [.i a]
theorem Zv8 (a:Int):g62 a =
 (if (cop .geq a 0) then
 some ((cop .lss a 16))
 else
 some (false)):=by kernel_rfl
noncomputable def F69:Fn:=⟨26,[4],[(4,[(0,.c (.slice 3)),(1,.c (.slice 3)),(5,.c (.int .i64))])],[],0,[],[],Tryz.f69,[.c (.slice 3),.c (.slice 3)],[.c (.bool)],[]⟩
theorem ZAt:F69.S.Ok Tryz.prog 69:=F69.ok Tryz.func69 (by kernel_rfl) trivial
noncomputable def g69 (a b:LL):Option (Bool):=F69.S.g [.l a,.l b]
noncomputable def Zph (k:Nat) (a b:LL) (c:Int):Option (Bool):=F69.lp [1,0] 0 r0 k [.l a,.l b,.i c]
theorem ZjJ (k:Nat) (b c:LL) (a:Int):Zph (k+1) b c a =
 (if (cop .lss a (List.length b:Int)) then
 Zm b a [.int .i64,.int .i64,.int .i64] fun (d:Int×Int×Int)=>
 Zm c a [.int .i64,.int .i64,.int .i64] fun (e:Int×Int×Int)=>
 if (!((cop .eql d.1 e.1)&&((cop .eql d.2.1 e.2.1)&&((cop .eql d.2.2 e.2.2)&&true)))) then
 some (false)
 else
 Zph k b c (iop .add .i64 a 1)
 else
 some (true)):=by kernel_rfl
theorem Zwm (a b:LL):g69 a b =
 (if (cop .neq (List.length a:Int) (List.length b:Int)) then
 some (false)
 else
 Zph Zr a b 0):=by kernel_rfl
noncomputable def Zqw:Fn:=⟨24,[4],[],[],0,[],[],Tryz.f127,[.agg hs16,.agg hs16],[.c (.bool)],[(69,F69.S)]⟩
theorem ZlK:Zqw.S.Ok Tryz.prog 127:=Zqw.ok Tryz.func127 (by kernel_rfl) ⟨ZAt,trivial⟩
noncomputable def Zop (a c d:Int) (e:LL) (f h j k m n:Int) (o:Bool) (p q r:Int) (s:LL) (t u v w x y:Int) (z:Bool):Option (Bool):=Zqw.S.g [.i a,.i c,.i d,.l e,.i f,.i h,.i j,.i k,.i m,.i n,.b o,.i p,.i q,.i r,.l s,.i t,.i u,.i v,.i w,.i x,.i y,.b z]
theorem Zs8 (a b c:Int) (d:LL) (e f g h i j:Int) (k:Bool) (l m n:Int) (o:LL) (p q r s t u:Int) (v:Bool):Zop a b c d e f g h i j k l m n o p q r s t u v =
 (if ((cop .eql a l)&&((cop .eql b m)&&((cop .eql c n)&&true))) then
 if ((cop .eql e p)&&((cop .eql f q)&&((cop .eql g r)&&((cop .eql h s)&&((cop .eql i t)&&((cop .eql j u)&&((k == v)&&true))))))) then
 (g69 d o).bind fun w=>
 some (w)
 else
 some (false)
 else
 some (false)):=by kernel_rfl
noncomputable def ZyD:Fn:=⟨12,[2],[],[],0,[],[],Tryz.f195,[.c (.int .i64)],[.c (.int .i64)],[]⟩
theorem ZBq:ZyD.S.Ok Tryz.prog 195:=ZyD.ok Tryz.func195 (by kernel_rfl) trivial
noncomputable def ZAl (a:Int):Option (Int):=ZyD.S.g [.i a]
theorem Zui (a:Int):ZAl a =
 (if (cop .eql a 3) then
 some (12)
 else
 if (cop .eql a 4) then
 some (6)
 else
 if (cop .eql a 5) then
 some (10)
 else
 if (cop .eql a 6) then
 some (16)
 else
 some (0)):=by kernel_rfl
noncomputable def ZwD:Fn:=⟨35,[4],[],[],0,[],[],Tryz.f162,[.c (.int .i64),.c (.int .i64)],[.c (.bool)],[(195,ZyD.S)]⟩
theorem Zyd:ZwD.S.Ok Tryz.prog 162:=ZwD.ok Tryz.func162 (by kernel_rfl) ⟨ZBq,trivial⟩
noncomputable def Zzi (a b:Int):Option (Bool):=ZwD.S.g [.i a,.i b]
theorem Zte (a b:Int):Zzi a b =
 (if (cop .eql a 1) then
 if (cop .geq b 6) then
 some ((cop .leq b 40))
 else
 some (false)
 else
 if (cop .eql a 2) then
 if (cop .geq b 12) then
 some ((cop .leq b 40))
 else
 some (false)
 else
 if (cop .geq a 3) then
 if (cop .leq a 6) then
 (ZAl a).bind fun c=>
 some ((cop .eql b c))
 else
 some (false)
 else
 some (false)):=by kernel_rfl
noncomputable def Zx9:Fn:=⟨8,[2],[],[],0,[],[],Tryz.f159,[.agg hs27],[.agg [.int .i64,.int .i64]],[]⟩
theorem Zvr:Zx9.S.Ok Tryz.prog 159:=Zx9.ok Tryz.func159 (by kernel_rfl) trivial
noncomputable def Zoz (a c d e f h:Int) (j:Bool):Option (Int×Int):=Zx9.S.g [.i a,.i c,.i d,.i e,.i f,.i h,.b j]
theorem Ztp (c a b d e f:Int) (g:Bool):Zoz c a b d e f g =
 (some (a,b)):=by kernel_rfl
noncomputable def Zsi:Fn:=⟨38,[2],[],[],0,[],[],Tryz.f185,[.agg [.int .i64,.int .i64]],[.c (.bool)],[]⟩
theorem Zp7:Zsi.S.Ok Tryz.prog 185:=Zsi.ok Tryz.func185 (by kernel_rfl) trivial
noncomputable def Zrf (a b:Int):Option (Bool):=Zsi.S.g [.i a,.i b]
theorem ZrG (b a:Int):Zrf b a =
 (if (cop .lss a 6) then
 some (false)
 else
 if (cop .gtr a 40) then
 some (false)
 else
 if (cop .lss b 0) then
 some (false)
 else
 if (cop .geq b 1099511627776) then
 some (false)
 else
 ZE ((0:Int)≤(IntKind.wrap .u64 a))<|
 ZE (((iop .shl .i64 1 (IntKind.wrap .u64 a)):Int)≠0)<|
 if (cop .eql (iop .rem .i64 b (iop .shl .i64 1 (IntKind.wrap .u64 a))) 0) then
 some ((cop .leq (iop .add .i64 b (iop .shl .i64 1 (IntKind.wrap .u64 a))) 1099511627776))
 else
 some (false)):=by kernel_rfl
noncomputable def Zxh:Fn:=⟨23,[4],[],[],0,[],[],Tryz.f163,[.c (.int .i64),.c (.int .i64)],[.c (.bool)],[]⟩
theorem Zxu:Zxh.S.Ok Tryz.prog 163:=Zxh.ok Tryz.func163 (by kernel_rfl) trivial
noncomputable def ZyI (a b:Int):Option (Bool):=Zxh.S.g [.i a,.i b]
theorem ZsL (b a:Int):ZyI b a =
 (if (cop .geq a 0) then
 if (cop .eql b 32) then
 if (cop .leq a 1) then
 some (true)
 else
 if (cop .eql b 39) then
 some ((cop .leq a 2))
 else
 some (false)
 else
 if (cop .eql b 39) then
 some ((cop .leq a 2))
 else
 some (false)
 else
 some (false)):=by kernel_rfl
noncomputable def Zr2:Fn:=⟨64,[2],[],[],0,[],[],Tryz.f130,[.agg hs27],[.c (.bool)],[(162,ZwD.S),(159,Zx9.S),(185,Zsi.S),(163,Zxh.S)]⟩
theorem Zo6:Zr2.S.Ok Tryz.prog 130:=Zr2.ok Tryz.func130 (by kernel_rfl) ⟨Zyd,⟨Zvr,⟨Zp7,⟨Zxu,trivial⟩⟩⟩⟩
noncomputable def ZuM (a c d e f h:Int) (j:Bool):Option (Bool):=Zr2.S.g [.i a,.i c,.i d,.i e,.i f,.i h,.b j]
theorem ZrB (a g f e c d:Int) (b:Bool):ZuM a g f e c d b =
 ((Zzi a f).bind fun i=>
 if (!i) then
 some (false)
 else
 (Zoz a g f e c d b).bind fun h=>
 (Zrf h.1 h.2).bind fun j=>
 if (!j) then
 some (false)
 else
 if (cop .lss e 0) then
 some (false)
 else
 if (cop .gtr e 7) then
 some (false)
 else
 if (cop .eql a 3) then
 (ZyI c d).bind fun k=>
 if (!k) then
 some (false)
 else
 if (cop .neq a 3) then
 if (cop .neq c 0) then
 some (false)
 else
 if (cop .neq d 0) then
 some (false)
 else
 if (!b) then
 some (true)
 else
 if (cop .eql a 1) then
 some (true)
 else
 some ((cop .eql a 2))
 else
 if (!b) then
 some (true)
 else
 if (cop .eql a 1) then
 some (true)
 else
 some ((cop .eql a 2))
 else
 if (cop .neq a 3) then
 if (cop .neq c 0) then
 some (false)
 else
 if (cop .neq d 0) then
 some (false)
 else
 if (!b) then
 some (true)
 else
 if (cop .eql a 1) then
 some (true)
 else
 some ((cop .eql a 2))
 else
 if (!b) then
 some (true)
 else
 if (cop .eql a 1) then
 some (true)
 else
 some ((cop .eql a 2))):=by kernel_rfl
noncomputable def F78:Fn:=⟨18,[4],[(2,[(0,.c (.slice 3)),(3,.box [.int .i64,.int .i64,.int .i64]),(5,.c (.int .i64))])],[],0,[],[],Tryz.f78,[.c (.slice 3),.agg [.int .i64,.int .i64,.int .i64]],[.c (.bool)],[]⟩
theorem ZzT:F78.S.Ok Tryz.prog 78:=F78.ok Tryz.func78 (by kernel_rfl) trivial
noncomputable def g78 (a:LL) (b c d:Int):Option (Bool):=F78.S.g [.l a,.i b,.i c,.i d]
noncomputable def Zp4 (k:Nat) (a:LL) (b c d e:Int):Option (Bool):=F78.lp [0] 0 r0 k [.l a,.i b,.i c,.i d,.i e]
theorem Zke (k:Nat) (a:LL) (c d e b:Int):Zp4 (k+1) a c d e b =
 (if (cop .lss b (List.length a:Int)) then
 Zm a b [.int .i64,.int .i64,.int .i64] fun (f:Int×Int×Int)=>
 if ((cop .eql f.1 c)&&((cop .eql f.2.1 d)&&((cop .eql f.2.2 e)&&true))) then
 some (true)
 else
 Zp4 k a c d e (iop .add .i64 b 1)
 else
 some (false)):=by kernel_rfl
theorem Zv6 (a:LL) (b c d:Int):g78 a b c d =
 (Zp4 Zr a b c d 0):=by kernel_rfl
noncomputable def F61:Fn:=⟨53,[2],[(4,[(1,.box hs16),(3,.c (.int .i64))])],[],0,[],[],Tryz.f61,[.agg hs16],[.c (.bool)],[(128,Zrj.S),(130,Zr2.S),(78,F78.S)]⟩
theorem Zux:F61.S.Ok Tryz.prog 61:=F61.ok Tryz.func61 (by kernel_rfl) ⟨Znb,⟨Zo6,⟨ZzT,trivial⟩⟩⟩
noncomputable def g61 (a c d:Int) (e:LL) (f h j k m n:Int) (o:Bool):Option (Bool):=F61.S.g [.i a,.i c,.i d,.l e,.i f,.i h,.i j,.i k,.i m,.i n,.b o]
noncomputable def Zqh (k:Nat) (a c d:Int) (e:LL) (f g h j m n:Int) (o:Bool) (p:Int):Option (Bool):=F61.lp [0,1,0,1,1,0,1,0] 0 r0 k [.i a,.i c,.i d,.l e,.i f,.i g,.i h,.i j,.i m,.i n,.b o,.i p]
theorem Zkr (k:Nat) (e f g:Int) (b:LL) (h i j l m n:Int) (o:Bool) (a:Int):Zqh (k+1) e f g b h i j l m n o a =
 (if (cop .lss a (List.length b:Int)) then
 Zm b a [.int .i64,.int .i64,.int .i64] fun (c:Int×Int×Int)=>
 (Zq1 c.1 c.2.1 c.2.2).bind fun p=>
 if (!p) then
 some (false)
 else
 ZE ((0:Int)≤a)<|
 ZE ((a:Int)≤(List.length b:Int))<|
 Zm b a [.int .i64,.int .i64,.int .i64] fun (d:Int×Int×Int)=>
 (g78 (List.take (Int.toNat a) b) d.1 d.2.1 d.2.2).bind fun q=>
 if q then
 some (false)
 else
 Zqh k e f g b h i j l m n o (iop .add .i64 a 1)
 else
 some (true)):=by kernel_rfl
theorem Zx0 (a b c:Int) (d:LL) (e f g h i j:Int) (k:Bool):g61 a b c d e f g h i j k =
 ((Zq1 a b c).bind fun l=>
 if (!l) then
 some (false)
 else
 (ZuM e f g h i j k).bind fun m=>
 if (!m) then
 some (false)
 else
 if (cop .gtr (List.length d:Int) 8) then
 some (false)
 else
 (g78 d a b c).bind fun n=>
 if n then
 some (false)
 else
 Zqh Zr a b c d e f g h i j k 0):=by kernel_rfl
noncomputable def F52:Fn:=⟨46,[2],[],[],0,[],[],Tryz.f52,[.agg hs6],[.c (.bool)],[(53,F53.S),(62,F62.S),(127,Zqw.S),(61,F61.S)]⟩
theorem ZDd:F52.S.Ok Tryz.prog 52:=F52.ok Tryz.func52 (by kernel_rfl) ⟨ZBX,⟨ZyP,⟨ZlK,⟨Zux,trivial⟩⟩⟩⟩
noncomputable def g52 (a c d e f h j k m n o p q r s t u v w x:Int) (y:LL) (z A C D E G:Int) (H:Bool):Option (Bool):=F52.S.g [.i a,.i c,.i d,.i e,.i f,.i h,.i j,.i k,.i m,.i n,.i o,.i p,.i q,.i r,.i s,.i t,.i u,.i v,.i w,.i x,.l y,.i z,.i A,.i C,.i D,.i E,.i G,.b H]
theorem ZuX (o p q b s t u v w x y z A C D r n c d e:Int) (f:LL) (g h i j k l:Int) (m:Bool):g52 o p q b s t u v w x y z A C D r n c d e f g h i j k l m =
 ((g53 o p q).bind fun E=>
 if (!E) then
 some (false)
 else
 if (cop .lss b 1) then
 some (false)
 else
 if (cop .gtr b 6) then
 some (false)
 else
 (g62 r).bind fun G=>
 if (!G) then
 some (false)
 else
 if (cop .neq n 32) then
 if (cop .neq n 39) then
 some (false)
 else
 if (cop .eql b 1) then
 (Zop c d e f g h i j k l m 0 0 0 E0 0 0 0 0 0 0 false).bind fun a=>
 some (a)
 else
 (g61 c d e f g h i j k l m).bind fun a=>
 some (a)
 else
 if (cop .eql b 1) then
 (Zop c d e f g h i j k l m 0 0 0 E0 0 0 0 0 0 0 false).bind fun a=>
 some (a)
 else
 (g61 c d e f g h i j k l m).bind fun a=>
 some (a)):=by kernel_rfl
noncomputable def F54:Fn:=⟨9,[2],[],[],0,[],[],Tryz.f54,[.c (.int .i64)],[.c (.bool)],[]⟩
theorem ZCN:F54.S.Ok Tryz.prog 54:=F54.ok Tryz.func54 (by kernel_rfl) trivial
noncomputable def g54 (a:Int):Option (Bool):=F54.S.g [.i a]
theorem ZuS (a:Int):g54 a =
 (if (cop .geq a 0) then
 some ((cop .leq a 99))
 else
 some (false)):=by kernel_rfl
noncomputable def F55:Fn:=⟨29,[4],[(2,[(0,.c (.slice 3)),(1,.c (.bool)),(5,.c (.int .i64))])],[],0,[],[],Tryz.f55,[.c (.slice 3),.c (.bool)],[.c (.bool)],[(128,Zrj.S)]⟩
theorem ZC3:F55.S.Ok Tryz.prog 55:=F55.ok Tryz.func55 (by kernel_rfl) ⟨Znb,trivial⟩
noncomputable def g55 (a:LL) (c:Bool):Option (Bool):=F55.S.g [.l a,.b c]
noncomputable def ZgC (k:Nat) (a:LL) (c:Bool) (d:Int):Option (Bool):=F55.lp [0] 0 r0 k [.l a,.b c,.i d]
theorem Zkz (k:Nat) (a:LL) (c:Bool) (b:Int):ZgC (k+1) a c b =
 (if (cop .lss b (List.length a:Int)) then
 Zm a b [.int .i64,.int .i64,.int .i64] fun (d:Int×Int×Int)=>
 (Zq1 d.1 d.2.1 d.2.2).bind fun e=>
 if (!e) then
 some (false)
 else
 if c then
 Zm a b [.int .i64,.int .i64,.int .i64] fun (f:Int×Int×Int)=>
 if (cop .neq f.2.2 0) then
 some (false)
 else
 ZgC k a c (iop .add .i64 b 1)
 else
 ZgC k a c (iop .add .i64 b 1)
 else
 some (true)):=by kernel_rfl
theorem ZwW (a:LL) (b:Bool):g55 a b =
 (ZgC Zr a b 0):=by kernel_rfl
noncomputable def F56:Fn:=⟨32,[2],[(2,[(0,.c (.slice 1)),(3,.c (.int .i64))])],[],0,[],[],Tryz.f56,[.c (.slice 1)],[.c (.bool)],[(51,F51.S)]⟩
theorem ZDE:F56.S.Ok Tryz.prog 56:=F56.ok Tryz.func56 (by kernel_rfl) ⟨Zup,trivial⟩
noncomputable def g56 (a:LL):Option (Bool):=F56.S.g [.l a]
noncomputable def Zg3 (k:Nat) (a:LL) (b:Int):Option (Bool):=F56.lp [0] 0 r0 k [.l a,.i b]
theorem Zky (k:Nat) (b:LL) (a:Int):Zg3 (k+1) b a =
 (if (cop .lss a (List.length b:Int)) then
 Zm b a [.int .i64] fun (c:Int)=>
 (g51 c).bind fun d=>
 if (!d) then
 some (false)
 else
 if (cop .gtr a 0) then
 Zm b a [.int .i64] fun (e:Int)=>
 Zm b (iop .sub .i64 a 1) [.int .i64] fun (f:Int)=>
 if (cop .leq e f) then
 some (false)
 else
 Zg3 k b (iop .add .i64 a 1)
 else
 Zg3 k b (iop .add .i64 a 1)
 else
 some (true)):=by kernel_rfl
theorem Zwp (a:LL):g56 a =
 (Zg3 Zr a 0):=by kernel_rfl
noncomputable def F79:Fn:=⟨18,[4],[(2,[(0,.c (.slice 1)),(1,.c (.int .i64)),(5,.c (.int .i64))])],[],0,[],[],Tryz.f79,[.c (.slice 1),.c (.int .i64)],[.c (.bool)],[]⟩
theorem ZDy:F79.S.Ok Tryz.prog 79:=F79.ok Tryz.func79 (by kernel_rfl) trivial
noncomputable def g79 (a:LL) (b:Int):Option (Bool):=F79.S.g [.l a,.i b]
noncomputable def Ziq (k:Nat) (a:LL) (b c:Int):Option (Bool):=F79.lp [0] 0 r0 k [.l a,.i b,.i c]
theorem ZkE (k:Nat) (a:LL) (c b:Int):Ziq (k+1) a c b =
 (if (cop .lss b (List.length a:Int)) then
 Zm a b [.int .i64] fun (d:Int)=>
 if (cop .eql d c) then
 some (true)
 else
 Ziq k a c (iop .add .i64 b 1)
 else
 some (false)):=by kernel_rfl
theorem Zx7 (a:LL) (b:Int):g79 a b =
 (Ziq Zr a b 0):=by kernel_rfl
noncomputable def F58:Fn:=⟨61,[2],[(4,[(1,.box [.int .i64,.slice 1,.slice 1]),(3,.c (.int .i64))]),(9,[(1,.box [.int .i64,.slice 1,.slice 1]),(4,.c (.int .i64))])],[],0,[],[],Tryz.f58,[.agg [.int .i64,.slice 1,.slice 1]],[.c (.bool)],[(50,F50.S),(51,F51.S),(79,F79.S)]⟩
theorem ZC0:F58.S.Ok Tryz.prog 58:=F58.ok Tryz.func58 (by kernel_rfl) ⟨ZDc,⟨Zup,⟨ZDy,trivial⟩⟩⟩
noncomputable def g58 (a:Int) (b c:LL):Option (Bool):=F58.S.g [.i a,.l b,.l c]
noncomputable def Zjl (k:Nat) (a:Int) (b c:LL) (d:Int):Option (Bool):=F58.lp [0,1,1,1,0,1,0] 0 r0 k [.i a,.l b,.l c,.i d]
theorem ZjI (k:Nat) (c:Int) (d a:LL) (b:Int):Zjl (k+1) c d a b =
 (if (cop .lss b (List.length a:Int)) then
 Zm a b [.int .i64] fun (e:Int)=>
 (g51 e).bind fun f=>
 if (!f) then
 some (false)
 else
 Zjl k c d a (iop .add .i64 b 1)
 else
 some (true)):=by kernel_rfl
noncomputable def Zjv (k:Nat) (a:Int) (b c:LL) (d:Int):Option (Bool):=F58.lp [0,1,1,1,0] 0 r0 k [.i a,.l b,.l c,.i d]
theorem Zlf (k:Nat) (c:Int) (a d:LL) (b:Int):Zjv (k+1) c a d b =
 (if (cop .lss b (List.length a:Int)) then
 Zm a b [.int .i64] fun (e:Int)=>
 (g51 e).bind fun f=>
 if (!f) then
 some (false)
 else
 ZE ((0:Int)≤b)<|
 ZE ((b:Int)≤(List.length a:Int))<|
 Zm a b [.int .i64] fun (g:Int)=>
 (g79 (List.take (Int.toNat b) a) g).bind fun h=>
 if h then
 some (false)
 else
 Zjv k c a d (iop .add .i64 b 1)
 else
 Zjl Zr c a d 0):=by kernel_rfl
theorem ZvF (a:Int) (b c:LL):g58 a b c =
 ((g50 a).bind fun d=>
 if (!d) then
 some (false)
 else
 if (cop .gtr (List.length b:Int) 32) then
 some (false)
 else
 if (cop .gtr (List.length c:Int) 16) then
 some (false)
 else
 Zjv Zr a b c 0):=by kernel_rfl
noncomputable def F81:Fn:=⟨8,[2],[],[],0,[],[],Tryz.f81,[.agg hs11],[.c (.bool)],[]⟩
theorem ZAq:F81.S.Ok Tryz.prog 81:=F81.ok Tryz.func81 (by kernel_rfl) trivial
noncomputable def g81 (a c d:Int) (e:LL) (f h j k m n:Int) (o:Bool) (p q r s:Int):Option (Bool):=F81.S.g [.i a,.i c,.i d,.l e,.i f,.i h,.i j,.i k,.i m,.i n,.b o,.i p,.i q,.i r,.i s]
theorem Zmo (a b c:Int) (d:LL) (e f g h i j:Int) (k:Bool) (l m n o:Int):g81 a b c d e f g h i j k l m n o =
 (some (((cop .eql a 0)&&((cop .eql b 0)&&((cop .eql c 0)&&true))))):=by kernel_rfl
noncomputable def ZvJ:Fn:=⟨29,[4],[(2,[(0,.c (.slice 15)),(3,.box [.int .i64,.int .i64,.int .i64]),(5,.c (.int .i64))])],[],0,[],[],Tryz.f184,[.c (.slice 15),.agg [.int .i64,.int .i64,.int .i64]],[.c (.int .i64)],[(81,F81.S)]⟩
theorem ZA0:ZvJ.S.Ok Tryz.prog 184:=ZvJ.ok Tryz.func184 (by kernel_rfl) ⟨ZAq,trivial⟩
noncomputable def Zy0 (a:LL) (b c d:Int):Option (Int):=ZvJ.S.g [.l a,.i b,.i c,.i d]
noncomputable def ZcE (k:Nat) (a:LL) (b c d e:Int):Option (Int):=ZvJ.lp [0] 0 r0 k [.l a,.i b,.i c,.i d,.i e]
theorem Zg0 (k:Nat) (c:LL) (d e f b:Int):ZcE (k+1) c d e f b =
 (if (cop .lss b (List.length c:Int)) then
 Zm c b hs11 fun (a:Qt21)=>
 (g81 a.1 a.2.1 a.2.2.1 a.2.2.2.1 a.2.2.2.2.1 a.2.2.2.2.2.1 a.2.2.2.2.2.2.1 a.2.2.2.2.2.2.2.1 a.2.2.2.2.2.2.2.2.1 a.2.2.2.2.2.2.2.2.2.1 a.2.2.2.2.2.2.2.2.2.2.1 a.2.2.2.2.2.2.2.2.2.2.2.1 (d4 (d8 a)).1 (d4 (d8 a)).2.1 (d2 (d4 (d8 a)))).bind fun h=>
 if (!h) then
 Zm c b hs11 fun (g:Qt21)=>
 if ((cop .eql g.1 d)&&((cop .eql g.2.1 e)&&((cop .eql g.2.2.1 f)&&true))) then
 some (b)
 else
 ZcE k c d e f (iop .add .i64 b 1)
 else
 ZcE k c d e f (iop .add .i64 b 1)
 else
 some ((-1))):=by kernel_rfl
theorem ZrL (a:LL) (b c d:Int):Zy0 a b c d =
 (ZcE Zr a b c d 0):=by kernel_rfl
noncomputable def Zwu:Fn:=⟨70,[2],[(4,[(0,.c (.slice 15)),(3,.c (.int .i64))])],[],0,[],[],Tryz.f129,[.c (.slice 15)],[.c (.bool)],[(128,Zrj.S),(81,F81.S),(127,Zqw.S),(61,F61.S),(184,ZvJ.S)]⟩
theorem ZBo:Zwu.S.Ok Tryz.prog 129:=Zwu.ok Tryz.func129 (by kernel_rfl) ⟨Znb,⟨ZAq,⟨ZlK,⟨Zux,⟨ZA0,trivial⟩⟩⟩⟩⟩
noncomputable def ZAI (a:LL):Option (Bool):=Zwu.S.g [.l a]
noncomputable def WR (k:Nat) (a:LL) (b:Int):Option (Bool):=Zwu.lp [1,0] 0 r0 k [.l a,.i b]
theorem Zib (k:Nat) (b:LL) (c:Int):WR (k+1) b c =
 (if (cop .lss c (List.length b:Int)) then
 Zm b c hs11 fun (a:Qt21)=>
 if (cop .lss a.2.2.2.2.2.2.2.2.2.2.2.1 0) then
 some (false)
 else
 if (cop .gtr a.2.2.2.2.2.2.2.2.2.2.2.1 1073741824) then
 some (false)
 else
 if (!((cop .eql (d4 (d8 a)).1 0)&&((cop .eql (d4 (d8 a)).2.1 0)&&((cop .eql (d2 (d4 (d8 a))) 0)&&true)))) then
 (Zq1 (d4 (d8 a)).1 (d4 (d8 a)).2.1 (d2 (d4 (d8 a)))).bind fun f=>
 if (!f) then
 some (false)
 else
 if (cop .neq (d2 (d4 (d8 a))) 0) then
 some (false)
 else
 (g81 a.1 a.2.1 a.2.2.1 a.2.2.2.1 a.2.2.2.2.1 a.2.2.2.2.2.1 a.2.2.2.2.2.2.1 a.2.2.2.2.2.2.2.1 a.2.2.2.2.2.2.2.2.1 a.2.2.2.2.2.2.2.2.2.1 a.2.2.2.2.2.2.2.2.2.2.1 a.2.2.2.2.2.2.2.2.2.2.2.1 (d4 (d8 a)).1 (d4 (d8 a)).2.1 (d2 (d4 (d8 a)))).bind fun d=>
 if d then
 (Zop a.1 a.2.1 a.2.2.1 a.2.2.2.1 a.2.2.2.2.1 a.2.2.2.2.2.1 a.2.2.2.2.2.2.1 a.2.2.2.2.2.2.2.1 a.2.2.2.2.2.2.2.2.1 a.2.2.2.2.2.2.2.2.2.1 a.2.2.2.2.2.2.2.2.2.2.1 0 0 0 E0 0 0 0 0 0 0 false).bind fun e=>
 if (!e) then
 some (false)
 else
 if (!((cop .eql (d4 (d8 a)).1 0)&&((cop .eql (d4 (d8 a)).2.1 0)&&((cop .eql (d2 (d4 (d8 a))) 0)&&true)))) then
 some (false)
 else
 WR k b (iop .add .i64 c 1)
 else
 (g61 a.1 a.2.1 a.2.2.1 a.2.2.2.1 a.2.2.2.2.1 a.2.2.2.2.2.1 a.2.2.2.2.2.2.1 a.2.2.2.2.2.2.2.1 a.2.2.2.2.2.2.2.2.1 a.2.2.2.2.2.2.2.2.2.1 a.2.2.2.2.2.2.2.2.2.2.1).bind fun e=>
 if (!e) then
 some (false)
 else
 (Zy0 b a.1 a.2.1 a.2.2.1).bind fun g=>
 if (cop .neq g c) then
 some (false)
 else
 WR k b (iop .add .i64 c 1)
 else
 (g81 a.1 a.2.1 a.2.2.1 a.2.2.2.1 a.2.2.2.2.1 a.2.2.2.2.2.1 a.2.2.2.2.2.2.1 a.2.2.2.2.2.2.2.1 a.2.2.2.2.2.2.2.2.1 a.2.2.2.2.2.2.2.2.2.1 a.2.2.2.2.2.2.2.2.2.2.1 a.2.2.2.2.2.2.2.2.2.2.2.1 (d4 (d8 a)).1 (d4 (d8 a)).2.1 (d2 (d4 (d8 a)))).bind fun f=>
 if f then
 (Zop a.1 a.2.1 a.2.2.1 a.2.2.2.1 a.2.2.2.2.1 a.2.2.2.2.2.1 a.2.2.2.2.2.2.1 a.2.2.2.2.2.2.2.1 a.2.2.2.2.2.2.2.2.1 a.2.2.2.2.2.2.2.2.2.1 a.2.2.2.2.2.2.2.2.2.2.1 0 0 0 E0 0 0 0 0 0 0 false).bind fun d=>
 if (!d) then
 some (false)
 else
 if (!((cop .eql (d4 (d8 a)).1 0)&&((cop .eql (d4 (d8 a)).2.1 0)&&((cop .eql (d2 (d4 (d8 a))) 0)&&true)))) then
 some (false)
 else
 WR k b (iop .add .i64 c 1)
 else
 (g61 a.1 a.2.1 a.2.2.1 a.2.2.2.1 a.2.2.2.2.1 a.2.2.2.2.2.1 a.2.2.2.2.2.2.1 a.2.2.2.2.2.2.2.1 a.2.2.2.2.2.2.2.2.1 a.2.2.2.2.2.2.2.2.2.1 a.2.2.2.2.2.2.2.2.2.2.1).bind fun d=>
 if (!d) then
 some (false)
 else
 (Zy0 b a.1 a.2.1 a.2.2.1).bind fun e=>
 if (cop .neq e c) then
 some (false)
 else
 WR k b (iop .add .i64 c 1)
 else
 some (true)):=by kernel_rfl
theorem ZtI (a:LL):ZAI a =
 (if (cop .gtr (List.length a:Int) 64) then
 some (false)
 else
 WR Zr a 0):=by kernel_rfl
noncomputable def F82:Fn:=⟨30,[4],[],[],0,[],[],Tryz.f82,[.agg [.int .i64,.int .i64,.int .i64],.agg [.int .i64,.int .i64,.int .i64]],[.c (.bool)],[]⟩
theorem ZBW:F82.S.Ok Tryz.prog 82:=F82.ok Tryz.func82 (by kernel_rfl) trivial
noncomputable def g82 (a b c d e f:Int):Option (Bool):=F82.S.g [.i a,.i b,.i c,.i d,.i e,.i f]
theorem ZxI (a b e c d f:Int):g82 a b e c d f =
 (if (cop .neq a c) then
 some ((cop .lss a c))
 else
 if (cop .neq b d) then
 some ((cop .lss b d))
 else
 some ((cop .lss e f))):=by kernel_rfl
noncomputable def F59:Fn:=⟨186,[2],[(4,[(1,.box hs30),(3,.c (.int .i64))]),(9,[(1,.box hs30),(4,.c (.int .i64))]),(15,[(1,.box hs30),(6,.c (.int .i64))]),(21,[(1,.box hs30),(8,.c (.int .i64))])],[],0,[],[],Tryz.f59,[.agg hs30],[.c (.bool)],[(129,Zwu.S),(55,F55.S),(52,F52.S),(82,F82.S),(62,F62.S),(53,F53.S),(54,F54.S),(51,F51.S),(61,F61.S)]⟩
theorem ZDj:F59.S.Ok Tryz.prog 59:=F59.ok Tryz.func59 (by kernel_rfl) ⟨ZBo,⟨ZC3,⟨ZDd,⟨ZBW,⟨ZyP,⟨ZBX,⟨ZCN,⟨Zup,⟨Zux,trivial⟩⟩⟩⟩⟩⟩⟩⟩⟩
noncomputable def g59 (a b c d e f:LL):Option (Bool):=F59.S.g [.l a,.l b,.l c,.l d,.l e,.l f]
noncomputable def ZdL (k:Nat) (a b c d e f:LL) (g:Int):Option (Bool):=F59.lp [0,1,0,1,0,1,0,1,0,1,0] 0 r0 k [.l a,.l b,.l c,.l d,.l e,.l f,.i g]
theorem Zku (k:Nat) (d e f g c h:LL) (b:Int):ZdL (k+1) d e f g c h b =
 (if (cop .lss b (List.length c:Int)) then
 Zm c b hs12 fun (a:Qt25)=>
 (g51 a.1).bind fun j=>
 if (!j) then
 some (false)
 else
 if (cop .lss a.2.1 0) then
 some (false)
 else
 if (cop .geq a.2.1 64) then
 some (false)
 else
 (g61 a.2.2.1 a.2.2.2.1 a.2.2.2.2.1 a.2.2.2.2.2.1 a.2.2.2.2.2.2.1 a.2.2.2.2.2.2.2.1 a.2.2.2.2.2.2.2.2.1 a.2.2.2.2.2.2.2.2.2.1 a.2.2.2.2.2.2.2.2.2.2.1 a.2.2.2.2.2.2.2.2.2.2.2.1 (d4 (d8 a))).bind fun l=>
 if (!l) then
 some (false)
 else
 if (cop .gtr b 0) then
 Zm c (iop .sub .i64 b 1) hs12 fun (i:Qt25)=>
 (g82 i.2.2.1 i.2.2.2.1 i.2.2.2.2.1 a.2.2.1 a.2.2.2.1 a.2.2.2.2.1).bind fun m=>
 if (!m) then
 some (false)
 else
 ZdL k d e f g c h (iop .add .i64 b 1)
 else
 ZdL k d e f g c h (iop .add .i64 b 1)
 else
 some (true)):=by kernel_rfl
noncomputable def Zdh (k:Nat) (a b c d e f:LL) (g:Int):Option (Bool):=F59.lp [0,1,0,1,0,1,0,1,0] 0 r0 k [.l a,.l b,.l c,.l d,.l e,.l f,.i g]
theorem Zj5 (k:Nat) (c d e a f g:LL) (b:Int):Zdh (k+1) c d e a f g b =
 (if (cop .lss b (List.length a:Int)) then
 Zm a b [.int .i64,.int .i64] fun (h:Int×Int)=>
 if (cop .lss h.1 1) then
 some (false)
 else
 if (cop .gtr h.1 1073741824) then
 some (false)
 else
 (g54 h.2).bind fun i=>
 if (!i) then
 some (false)
 else
 if (cop .gtr b 0) then
 Zm a (iop .sub .i64 b 1) [.int .i64,.int .i64] fun (j:Int×Int)=>
 if (cop .leq h.1 j.1) then
 some (false)
 else
 Zdh k c d e a f g (iop .add .i64 b 1)
 else
 Zdh k c d e a f g (iop .add .i64 b 1)
 else
 ZdL Zr c d e a f g 0):=by kernel_rfl
noncomputable def Zdf (k:Nat) (a b c d e f:LL) (g:Int):Option (Bool):=F59.lp [0,1,0,1,0,1,0] 0 r0 k [.l a,.l b,.l c,.l d,.l e,.l f,.i g]
theorem ZjC (k:Nat) (d e a f g h:LL) (b:Int):Zdf (k+1) d e a f g h b =
 (if (cop .lss b (List.length a:Int)) then
 Zm a b [.int .i64,.int .i64,.int .i64,.int .i64] fun (c:Int×Int×Int×Int)=>
 (g62 c.1).bind fun i=>
 if (!i) then
 some (false)
 else
 (g53 c.2.1 c.2.2.1 c.2.2.2).bind fun j=>
 if (!j) then
 some (false)
 else
 if (cop .gtr b 0) then
 Zm a (iop .sub .i64 b 1) [.int .i64,.int .i64,.int .i64,.int .i64] fun (l:Int×Int×Int×Int)=>
 if (cop .leq c.1 l.1) then
 some (false)
 else
 Zdf k d e a f g h (iop .add .i64 b 1)
 else
 Zdf k d e a f g h (iop .add .i64 b 1)
 else
 Zdh Zr d e a f g h 0):=by kernel_rfl
noncomputable def ZfP (k:Nat) (a b c d e f:LL) (g:Int):Option (Bool):=F59.lp [0,1,0,1,0] 0 r0 k [.l a,.l b,.l c,.l d,.l e,.l f,.i g]
theorem ZjW (k:Nat) (d b e f g h:LL) (c:Int):ZfP (k+1) d b e f g h c =
 (if (cop .lss c (List.length b:Int)) then
 Zm b c hs6 fun (a:Qt10)=>
 (g52 a.1 a.2.1 a.2.2.1 a.2.2.2.1 a.2.2.2.2.1 a.2.2.2.2.2.1 a.2.2.2.2.2.2.1 a.2.2.2.2.2.2.2.1 a.2.2.2.2.2.2.2.2.1 a.2.2.2.2.2.2.2.2.2.1 a.2.2.2.2.2.2.2.2.2.2.1 a.2.2.2.2.2.2.2.2.2.2.2.1 (d4 (d8 a)).1 (d4 (d8 a)).2.1 (d2 (d4 (d8 a))).1 (d2 (d4 (d8 a))).2.1 (d16 a).1 (d16 a).2.1 (d2 (d16 a)).1 (d2 (d16 a)).2.1 (d4 (d16 a)).1 (d4 (d16 a)).2.1 (d2 (d4 (d16 a))).1 (d2 (d4 (d16 a))).2.1 (d8 (d16 a)).1 (d8 (d16 a)).2.1 (d2 (d8 (d16 a))).1 (d2 (d8 (d16 a))).2).bind fun l=>
 if (!l) then
 some (false)
 else
 if (cop .gtr c 0) then
 Zm b (iop .sub .i64 c 1) hs6 fun (i:Qt10)=>
 Zm b c hs6 fun (j:Qt10)=>
 (g82 i.1 i.2.1 i.2.2.1 j.1 j.2.1 j.2.2.1).bind fun m=>
 if (!m) then
 some (false)
 else
 ZfP k d b e f g h (iop .add .i64 c 1)
 else
 ZfP k d b e f g h (iop .add .i64 c 1)
 else
 Zdf Zr d b e f g h 0):=by kernel_rfl
theorem Zwh (a c d e f b:LL):g59 a c d e f b =
 ((ZAI a).bind fun g=>
 if (!g) then
 some (false)
 else
 (g55 b true).bind fun h=>
 if (!h) then
 some (false)
 else
 ZfP Zr a c d e f b 0):=by kernel_rfl
noncomputable def F57:Fn:=⟨26,[2],[],[],0,[],[],Tryz.f57,[.agg hs7],[.c (.bool)],[(51,F51.S),(58,F58.S),(59,F59.S)]⟩
theorem ZEC:F57.S.Ok Tryz.prog 57:=F57.ok Tryz.func57 (by kernel_rfl) ⟨Zup,⟨ZC0,⟨ZDj,trivial⟩⟩⟩
noncomputable def g57 (a c:Int) (d e f h j k m n:LL) (o:Bool) (p:Int) (q r s t u v w x:LL):Option (Bool):=F57.S.g [.i a,.i c,.l d,.l e,.l f,.l h,.l j,.l k,.l m,.l n,.b o,.i p,.l q,.l r,.l s,.l t,.l u,.l v,.l w,.l x]
theorem ZwV (a b:Int) (c d e f g h i j:LL) (t:Bool) (k:Int) (l m n o p q r s:LL):g57 a b c d e f g h i j t k l m n o p q r s =
 ((g51 a).bind fun u=>
 if u then
 (g58 b c d).bind fun v=>
 if v then
 (g58 k l m).bind fun w=>
 if w then
 (g59 e f g h i j).bind fun x=>
 if x then
 (g59 n o p q r s).bind fun y=>
 some (y)
 else
 some (false)
 else
 some (false)
 else
 some (false)
 else
 some (false)):=by kernel_rfl
noncomputable def F60:Fn:=⟨29,[2],[(2,[(0,.c (.slice 2)),(3,.c (.int .i64))])],[],0,[],[],Tryz.f60,[.c (.slice 2)],[.c (.bool)],[(62,F62.S),(51,F51.S)]⟩
theorem ZDD:F60.S.Ok Tryz.prog 60:=F60.ok Tryz.func60 (by kernel_rfl) ⟨ZyP,⟨Zup,trivial⟩⟩
noncomputable def g60 (a:LL):Option (Bool):=F60.S.g [.l a]
noncomputable def Zid (k:Nat) (a:LL) (b:Int):Option (Bool):=F60.lp [0] 0 r0 k [.l a,.i b]
theorem Zk6 (k:Nat) (a:LL) (b:Int):Zid (k+1) a b =
 (if (cop .lss b (List.length a:Int)) then
 Zm a b [.int .i64,.int .i64] fun (c:Int×Int)=>
 (g62 c.1).bind fun d=>
 if (!d) then
 some (false)
 else
 Zm a b [.int .i64,.int .i64] fun (e:Int×Int)=>
 (g51 e.2).bind fun f=>
 if (!f) then
 some (false)
 else
 Zid k a (iop .add .i64 b 1)
 else
 some ((cop .leq (List.length a:Int) 16))):=by kernel_rfl
theorem Zwj (a:LL):g60 a =
 (Zid Zr a 0):=by kernel_rfl
noncomputable def F68:Fn:=⟨38,[4],[],[],0,[],[],Tryz.f68,[.agg hs6,.agg hs6],[.c (.bool)],[(127,Zqw.S)]⟩
theorem ZDl:F68.S.Ok Tryz.prog 68:=F68.ok Tryz.func68 (by kernel_rfl) ⟨ZlK,trivial⟩
noncomputable def g68 (a c d e f h j k m n o p q r s t u v w x:Int) (y:LL) (z A C D E G:Int) (H:Bool) (J K L M N O P Q R T U V W X Y Z aa ab ac ad:Int) (ae:LL) (af ag ah ai aj ak:Int) (al:Bool):Option (Bool):=F68.S.g [.i a,.i c,.i d,.i e,.i f,.i h,.i j,.i k,.i m,.i n,.i o,.i p,.i q,.i r,.i s,.i t,.i u,.i v,.i w,.i x,.l y,.i z,.i A,.i C,.i D,.i E,.i G,.b H,.i J,.i K,.i L,.i M,.i N,.i O,.i P,.i Q,.i R,.i T,.i U,.i V,.i W,.i X,.i Y,.i Z,.i aa,.i ab,.i ac,.i ad,.l ae,.i af,.i ag,.i ah,.i ai,.i aj,.i ak,.b al]
theorem Zwz (a b c d e f g h i j k l m n o p q r s t:Int) (u:LL) (v w x y z A:Int) (C:Bool) (D E G H J K L M N O P Q R T U V W X Y Z:Int) (aa:LL) (ab ac ad ae af ag:Int) (ah:Bool):g68 a b c d e f g h i j k l m n o p q r s t u v w x y z A C D E G H J K L M N O P Q R T U V W X Y Z aa ab ac ad ae af ag ah =
 (if ((cop .eql a D)&&((cop .eql b E)&&((cop .eql c G)&&true))) then
 if ((cop .eql d H)&&((cop .eql e J)&&((cop .eql f K)&&((cop .eql g L)&&((cop .eql h M)&&((cop .eql i N)&&((cop .eql j O)&&((cop .eql k P)&&((cop .eql l Q)&&((cop .eql m R)&&((cop .eql n T)&&((cop .eql o U)&&true)))))))))))) then
 if (cop .eql p V) then
 if (cop .eql q W) then
 (Zop r s t u v w x y z A C X Y Z aa ab ac ad ae af ag ah).bind fun ai=>
 some (ai)
 else
 some (false)
 else
 some (false)
 else
 some (false)
 else
 some (false)):=by kernel_rfl
noncomputable def F70:Fn:=⟨27,[4],[(4,[(0,.c (.slice 11)),(1,.c (.slice 11)),(5,.c (.int .i64))])],[],0,[],[],Tryz.f70,[.c (.slice 11),.c (.slice 11)],[.c (.bool)],[(127,Zqw.S)]⟩
theorem ZEt:F70.S.Ok Tryz.prog 70:=F70.ok Tryz.func70 (by kernel_rfl) ⟨ZlK,trivial⟩
noncomputable def g70 (a b:LL):Option (Bool):=F70.S.g [.l a,.l b]
noncomputable def ZmI (k:Nat) (a b:LL) (c:Int):Option (Bool):=F70.lp [1,0] 0 r0 k [.l a,.l b,.i c]
theorem ZkW (k:Nat) (d e:LL) (c:Int):ZmI (k+1) d e c =
 (if (cop .lss c (List.length d:Int)) then
 Zm d c hs16 fun (a:Qt31)=>
 Zm e c hs16 fun (b:Qt31)=>
 (Zop a.1 a.2.1 a.2.2.1 a.2.2.2.1 a.2.2.2.2.1 a.2.2.2.2.2.1 a.2.2.2.2.2.2.1 a.2.2.2.2.2.2.2.1 a.2.2.2.2.2.2.2.2.1 a.2.2.2.2.2.2.2.2.2.1 a.2.2.2.2.2.2.2.2.2.2 b.1 b.2.1 b.2.2.1 b.2.2.2.1 b.2.2.2.2.1 b.2.2.2.2.2.1 b.2.2.2.2.2.2.1 b.2.2.2.2.2.2.2.1 b.2.2.2.2.2.2.2.2.1 b.2.2.2.2.2.2.2.2.2.1 b.2.2.2.2.2.2.2.2.2.2).bind fun f=>
 if (!f) then
 some (false)
 else
 ZmI k d e (iop .add .i64 c 1)
 else
 some (true)):=by kernel_rfl
theorem Zwo (a b:LL):g70 a b =
 (if (cop .neq (List.length a:Int) (List.length b:Int)) then
 some (false)
 else
 ZmI Zr a b 0):=by kernel_rfl
noncomputable def F71:Fn:=⟨26,[4],[(4,[(0,.c (.slice 1)),(1,.c (.slice 1)),(5,.c (.int .i64))])],[],0,[],[],Tryz.f71,[.c (.slice 1),.c (.slice 1)],[.c (.bool)],[]⟩
theorem ZC8:F71.S.Ok Tryz.prog 71:=F71.ok Tryz.func71 (by kernel_rfl) trivial
noncomputable def g71 (a b:LL):Option (Bool):=F71.S.g [.l a,.l b]
noncomputable def Zmv (k:Nat) (a b:LL) (c:Int):Option (Bool):=F71.lp [1,0] 0 r0 k [.l a,.l b,.i c]
theorem Zkp (k:Nat) (b c:LL) (a:Int):Zmv (k+1) b c a =
 (if (cop .lss a (List.length b:Int)) then
 Zm b a [.int .i64] fun (d:Int)=>
 Zm c a [.int .i64] fun (e:Int)=>
 if (cop .neq d e) then
 some (false)
 else
 Zmv k b c (iop .add .i64 a 1)
 else
 some (true)):=by kernel_rfl
theorem Zvd (a b:LL):g71 a b =
 (if (cop .neq (List.length a:Int) (List.length b:Int)) then
 some (false)
 else
 Zmv Zr a b 0):=by kernel_rfl
noncomputable def F72:Fn:=⟨26,[4],[(4,[(0,.c (.slice 2)),(1,.c (.slice 2)),(5,.c (.int .i64))])],[],0,[],[],Tryz.f72,[.c (.slice 2),.c (.slice 2)],[.c (.bool)],[]⟩
theorem ZEs:F72.S.Ok Tryz.prog 72:=F72.ok Tryz.func72 (by kernel_rfl) trivial
noncomputable def g72 (a b:LL):Option (Bool):=F72.S.g [.l a,.l b]
noncomputable def ZmY (k:Nat) (a b:LL) (c:Int):Option (Bool):=F72.lp [1,0] 0 r0 k [.l a,.l b,.i c]
theorem Zlg (k:Nat) (b c:LL) (a:Int):ZmY (k+1) b c a =
 (if (cop .lss a (List.length b:Int)) then
 Zm b a [.int .i64,.int .i64] fun (d:Int×Int)=>
 Zm c a [.int .i64,.int .i64] fun (e:Int×Int)=>
 if (!((cop .eql d.1 e.1)&&((cop .eql d.2 e.2)&&true))) then
 some (false)
 else
 ZmY k b c (iop .add .i64 a 1)
 else
 some (true)):=by kernel_rfl
theorem Zxx (a b:LL):g72 a b =
 (if (cop .neq (List.length a:Int) (List.length b:Int)) then
 some (false)
 else
 ZmY Zr a b 0):=by kernel_rfl
noncomputable def F73:Fn:=⟨24,[4],[],[],0,[],[],Tryz.f73,[.agg [.int .i64,.slice 1,.slice 1],.agg [.int .i64,.slice 1,.slice 1]],[.c (.bool)],[(71,F71.S)]⟩
theorem ZDh:F73.S.Ok Tryz.prog 73:=F73.ok Tryz.func73 (by kernel_rfl) ⟨ZC8,trivial⟩
noncomputable def g73 (a:Int) (b c:LL) (d:Int) (e f:LL):Option (Bool):=F73.S.g [.i a,.l b,.l c,.i d,.l e,.l f]
theorem Zvt (a:Int) (b c:LL) (d:Int) (e f:LL):g73 a b c d e f =
 (if (cop .eql a d) then
 (g71 b e).bind fun g=>
 if g then
 (g71 c f).bind fun h=>
 some (h)
 else
 some (false)
 else
 some (false)):=by kernel_rfl
noncomputable def ZxG:Fn:=⟨55,[4],[(4,[(0,.c (.slice 15)),(1,.c (.slice 15)),(5,.c (.int .i64))])],[],0,[],[],Tryz.f151,[.c (.slice 15),.c (.slice 15)],[.c (.bool)],[(127,Zqw.S)]⟩
theorem Zz5:ZxG.S.Ok Tryz.prog 151:=ZxG.ok Tryz.func151 (by kernel_rfl) ⟨ZlK,trivial⟩
noncomputable def ZAb (a b:LL):Option (Bool):=ZxG.S.g [.l a,.l b]
noncomputable def Zhb (k:Nat) (a b:LL) (c:Int):Option (Bool):=ZxG.lp [1,0] 0 r0 k [.l a,.l b,.i c]
theorem ZgK (k:Nat) (d e:LL) (c:Int):Zhb (k+1) d e c =
 (if (cop .lss c (List.length d:Int)) then
 Zm d c hs11 fun (h:Qt21)=>
 Zm e c hs11 fun (i:Qt21)=>
 if (cop .neq h.2.2.2.2.2.2.2.2.2.2.2.1 i.2.2.2.2.2.2.2.2.2.2.2.1) then
 some (false)
 else
 Zm d c hs11 fun (f:Qt21)=>
 Zm e c hs11 fun (g:Qt21)=>
 if (!((cop .eql (d4 (d8 f)).1 (d4 (d8 g)).1)&&((cop .eql (d4 (d8 f)).2.1 (d4 (d8 g)).2.1)&&((cop .eql (d2 (d4 (d8 f))) (d2 (d4 (d8 g))))&&true)))) then
 some (false)
 else
 Zm d c hs11 fun (a:Qt21)=>
 Zm e c hs11 fun (b:Qt21)=>
 (Zop a.1 a.2.1 a.2.2.1 a.2.2.2.1 a.2.2.2.2.1 a.2.2.2.2.2.1 a.2.2.2.2.2.2.1 a.2.2.2.2.2.2.2.1 a.2.2.2.2.2.2.2.2.1 a.2.2.2.2.2.2.2.2.2.1 a.2.2.2.2.2.2.2.2.2.2.1 b.1 b.2.1 b.2.2.1 b.2.2.2.1 b.2.2.2.2.1 b.2.2.2.2.2.1 b.2.2.2.2.2.2.1 b.2.2.2.2.2.2.2.1 b.2.2.2.2.2.2.2.2.1 b.2.2.2.2.2.2.2.2.2.1 b.2.2.2.2.2.2.2.2.2.2.1).bind fun j=>
 if (!j) then
 some (false)
 else
 Zhb k d e (iop .add .i64 c 1)
 else
 some (true)):=by kernel_rfl
theorem ZsH (a b:LL):ZAb a b =
 (if (cop .neq (List.length a:Int) (List.length b:Int)) then
 some (false)
 else
 Zhb Zr a b 0):=by kernel_rfl
noncomputable def Zu3:Fn:=⟨27,[4],[(4,[(0,.c (.slice 28)),(1,.c (.slice 28)),(5,.c (.int .i64))])],[],0,[],[],Tryz.f152,[.c (.slice 28),.c (.slice 28)],[.c (.bool)],[(68,F68.S)]⟩
theorem ZBM:Zu3.S.Ok Tryz.prog 152:=Zu3.ok Tryz.func152 (by kernel_rfl) ⟨ZDl,trivial⟩
noncomputable def ZzF (a b:LL):Option (Bool):=Zu3.S.g [.l a,.l b]
noncomputable def Zhq (k:Nat) (a b:LL) (c:Int):Option (Bool):=Zu3.lp [1,0] 0 r0 k [.l a,.l b,.i c]
theorem Zhw (k:Nat) (d e:LL) (c:Int):Zhq (k+1) d e c =
 (if (cop .lss c (List.length d:Int)) then
 Zm d c hs6 fun (a:Qt10)=>
 Zm e c hs6 fun (b:Qt10)=>
 (g68 a.1 a.2.1 a.2.2.1 a.2.2.2.1 a.2.2.2.2.1 a.2.2.2.2.2.1 a.2.2.2.2.2.2.1 a.2.2.2.2.2.2.2.1 a.2.2.2.2.2.2.2.2.1 a.2.2.2.2.2.2.2.2.2.1 a.2.2.2.2.2.2.2.2.2.2.1 a.2.2.2.2.2.2.2.2.2.2.2.1 (d4 (d8 a)).1 (d4 (d8 a)).2.1 (d2 (d4 (d8 a))).1 (d2 (d4 (d8 a))).2.1 (d16 a).1 (d16 a).2.1 (d2 (d16 a)).1 (d2 (d16 a)).2.1 (d4 (d16 a)).1 (d4 (d16 a)).2.1 (d2 (d4 (d16 a))).1 (d2 (d4 (d16 a))).2.1 (d8 (d16 a)).1 (d8 (d16 a)).2.1 (d2 (d8 (d16 a))).1 (d2 (d8 (d16 a))).2 b.1 b.2.1 b.2.2.1 b.2.2.2.1 b.2.2.2.2.1 b.2.2.2.2.2.1 b.2.2.2.2.2.2.1 b.2.2.2.2.2.2.2.1 b.2.2.2.2.2.2.2.2.1 b.2.2.2.2.2.2.2.2.2.1 b.2.2.2.2.2.2.2.2.2.2.1 b.2.2.2.2.2.2.2.2.2.2.2.1 (d4 (d8 b)).1 (d4 (d8 b)).2.1 (d2 (d4 (d8 b))).1 (d2 (d4 (d8 b))).2.1 (d16 b).1 (d16 b).2.1 (d2 (d16 b)).1 (d2 (d16 b)).2.1 (d4 (d16 b)).1 (d4 (d16 b)).2.1 (d2 (d4 (d16 b))).1 (d2 (d4 (d16 b))).2.1 (d8 (d16 b)).1 (d8 (d16 b)).2.1 (d2 (d8 (d16 b))).1 (d2 (d8 (d16 b))).2).bind fun f=>
 if (!f) then
 some (false)
 else
 Zhq k d e (iop .add .i64 c 1)
 else
 some (true)):=by kernel_rfl
theorem ZsV (a b:LL):ZzF a b =
 (if (cop .neq (List.length a:Int) (List.length b:Int)) then
 some (false)
 else
 Zhq Zr a b 0):=by kernel_rfl
noncomputable def Zxn:Fn:=⟨26,[4],[(4,[(0,.c (.slice 4)),(1,.c (.slice 4)),(5,.c (.int .i64))])],[],0,[],[],Tryz.f153,[.c (.slice 4),.c (.slice 4)],[.c (.bool)],[]⟩
theorem ZBT:Zxn.S.Ok Tryz.prog 153:=Zxn.ok Tryz.func153 (by kernel_rfl) trivial
noncomputable def ZAN (a b:LL):Option (Bool):=Zxn.S.g [.l a,.l b]
noncomputable def Zhf (k:Nat) (a b:LL) (c:Int):Option (Bool):=Zxn.lp [1,0] 0 r0 k [.l a,.l b,.i c]
theorem Zhp (k:Nat) (b e:LL) (a:Int):Zhf (k+1) b e a =
 (if (cop .lss a (List.length b:Int)) then
 Zm b a [.int .i64,.int .i64,.int .i64,.int .i64] fun (c:Int×Int×Int×Int)=>
 Zm e a [.int .i64,.int .i64,.int .i64,.int .i64] fun (d:Int×Int×Int×Int)=>
 if (!((cop .eql c.1 d.1)&&((cop .eql c.2.1 d.2.1)&&((cop .eql c.2.2.1 d.2.2.1)&&((cop .eql c.2.2.2 d.2.2.2)&&true))))) then
 some (false)
 else
 Zhf k b e (iop .add .i64 a 1)
 else
 some (true)):=by kernel_rfl
theorem ZsN (a b:LL):ZAN a b =
 (if (cop .neq (List.length a:Int) (List.length b:Int)) then
 some (false)
 else
 Zhf Zr a b 0):=by kernel_rfl
noncomputable def Zu7:Fn:=⟨26,[4],[(4,[(0,.c (.slice 2)),(1,.c (.slice 2)),(5,.c (.int .i64))])],[],0,[],[],Tryz.f154,[.c (.slice 2),.c (.slice 2)],[.c (.bool)],[]⟩
theorem ZBe:Zu7.S.Ok Tryz.prog 154:=Zu7.ok Tryz.func154 (by kernel_rfl) trivial
noncomputable def ZCL (a b:LL):Option (Bool):=Zu7.S.g [.l a,.l b]
noncomputable def ZhU (k:Nat) (a b:LL) (c:Int):Option (Bool):=Zu7.lp [1,0] 0 r0 k [.l a,.l b,.i c]
theorem ZhC (k:Nat) (b c:LL) (a:Int):ZhU (k+1) b c a =
 (if (cop .lss a (List.length b:Int)) then
 Zm b a [.int .i64,.int .i64] fun (d:Int×Int)=>
 Zm c a [.int .i64,.int .i64] fun (e:Int×Int)=>
 if (!((cop .eql d.1 e.1)&&((cop .eql d.2 e.2)&&true))) then
 some (false)
 else
 ZhU k b c (iop .add .i64 a 1)
 else
 some (true)):=by kernel_rfl
theorem Zuj (a b:LL):ZCL a b =
 (if (cop .neq (List.length a:Int) (List.length b:Int)) then
 some (false)
 else
 ZhU Zr a b 0):=by kernel_rfl
noncomputable def ZvA:Fn:=⟨55,[4],[(4,[(0,.c (.slice 13)),(1,.c (.slice 13)),(5,.c (.int .i64))])],[],0,[],[],Tryz.f155,[.c (.slice 13),.c (.slice 13)],[.c (.bool)],[(127,Zqw.S)]⟩
theorem ZB3:ZvA.S.Ok Tryz.prog 155:=ZvA.ok Tryz.func155 (by kernel_rfl) ⟨ZlK,trivial⟩
noncomputable def ZAo (a b:LL):Option (Bool):=ZvA.S.g [.l a,.l b]
noncomputable def Zgk (k:Nat) (a b:LL) (c:Int):Option (Bool):=ZvA.lp [1,0] 0 r0 k [.l a,.l b,.i c]
theorem ZgV (k:Nat) (d e:LL) (c:Int):Zgk (k+1) d e c =
 (if (cop .lss c (List.length d:Int)) then
 Zm d c hs12 fun (f:Qt25)=>
 Zm e c hs12 fun (g:Qt25)=>
 if (cop .neq f.1 g.1) then
 some (false)
 else
 Zm d c hs12 fun (h:Qt25)=>
 Zm e c hs12 fun (i:Qt25)=>
 if (cop .neq h.2.1 i.2.1) then
 some (false)
 else
 Zm d c hs12 fun (a:Qt25)=>
 Zm e c hs12 fun (b:Qt25)=>
 (Zop a.2.2.1 a.2.2.2.1 a.2.2.2.2.1 a.2.2.2.2.2.1 a.2.2.2.2.2.2.1 a.2.2.2.2.2.2.2.1 a.2.2.2.2.2.2.2.2.1 a.2.2.2.2.2.2.2.2.2.1 a.2.2.2.2.2.2.2.2.2.2.1 a.2.2.2.2.2.2.2.2.2.2.2.1 (d4 (d8 a)) b.2.2.1 b.2.2.2.1 b.2.2.2.2.1 b.2.2.2.2.2.1 b.2.2.2.2.2.2.1 b.2.2.2.2.2.2.2.1 b.2.2.2.2.2.2.2.2.1 b.2.2.2.2.2.2.2.2.2.1 b.2.2.2.2.2.2.2.2.2.2.1 b.2.2.2.2.2.2.2.2.2.2.2.1 (d4 (d8 b))).bind fun j=>
 if (!j) then
 some (false)
 else
 Zgk k d e (iop .add .i64 c 1)
 else
 some (true)):=by kernel_rfl
theorem Ztf (a b:LL):ZAo a b =
 (if (cop .neq (List.length a:Int) (List.length b:Int)) then
 some (false)
 else
 Zgk Zr a b 0):=by kernel_rfl
noncomputable def F74:Fn:=⟨45,[4],[],[],0,[],[],Tryz.f74,[.agg hs30,.agg hs30],[.c (.bool)],[(151,ZxG.S),(152,Zu3.S),(153,Zxn.S),(154,Zu7.S),(155,ZvA.S),(69,F69.S)]⟩
theorem ZC1:F74.S.Ok Tryz.prog 74:=F74.ok Tryz.func74 (by kernel_rfl) ⟨Zz5,⟨ZBM,⟨ZBT,⟨ZBe,⟨ZB3,⟨ZAt,trivial⟩⟩⟩⟩⟩⟩
noncomputable def g74 (a b c d e f h i j k m n:LL):Option (Bool):=F74.S.g [.l a,.l b,.l c,.l d,.l e,.l f,.l h,.l i,.l j,.l k,.l m,.l n]
theorem ZwY (a b c d e f g h i j k l:LL):g74 a b c d e f g h i j k l =
 ((ZAb a g).bind fun m=>
 if m then
 (ZzF b h).bind fun n=>
 if n then
 (ZAN c i).bind fun o=>
 if o then
 (ZCL d j).bind fun p=>
 if p then
 (ZAo e k).bind fun q=>
 if q then
 (g69 f l).bind fun r=>
 some (r)
 else
 some (false)
 else
 some (false)
 else
 some (false)
 else
 some (false)
 else
 some (false)):=by kernel_rfl
noncomputable def F75:Fn:=⟨45,[4],[],[],0,[],[],Tryz.f75,[.agg hs7,.agg hs7],[.c (.bool)],[(73,F73.S),(74,F74.S)]⟩
theorem ZEn:F75.S.Ok Tryz.prog 75:=F75.ok Tryz.func75 (by kernel_rfl) ⟨ZDh,⟨ZC1,trivial⟩⟩
noncomputable def g75 (a c:Int) (d e f h j k m n:LL) (o:Bool) (p:Int) (q r s t u v w x:LL) (y z:Int) (A C D E G H J K:LL) (L:Bool) (M:Int) (N O P Q R T U V:LL):Option (Bool):=F75.S.g [.i a,.i c,.l d,.l e,.l f,.l h,.l j,.l k,.l m,.l n,.b o,.i p,.l q,.l r,.l s,.l t,.l u,.l v,.l w,.l x,.i y,.i z,.l A,.l C,.l D,.l E,.l G,.l H,.l J,.l K,.b L,.i M,.l N,.l O,.l P,.l Q,.l R,.l T,.l U,.l V]
theorem Zxl (a b:Int) (c d e f g h i j:LL) (k:Bool) (l:Int) (m n o p q r s t:LL) (u v:Int) (w x y z A C D E:LL) (G:Bool) (H:Int) (J K L M N O P Q:LL):g75 a b c d e f g h i j k l m n o p q r s t u v w x y z A C D E G H J K L M N O P Q =
 (if (cop .eql a u) then
 (g73 b c d v w x).bind fun R=>
 if R then
 (g74 e f g h i j y z A C D E).bind fun T=>
 if T then
 if (k == G) then
 (g73 l m n H J K).bind fun U=>
 if U then
 (g74 o p q r s t L M N O P Q).bind fun V=>
 some (V)
 else
 some (false)
 else
 some (false)
 else
 some (false)
 else
 some (false)
 else
 some (false)):=by kernel_rfl
noncomputable def F19:Fn:=⟨134,[4],[],[],0,[],[],Tryz.f19,[.agg hs0,.agg hs0],[.c (.bool)],[(68,F68.S),(69,F69.S),(70,F70.S),(71,F71.S),(72,F72.S),(73,F73.S),(74,F74.S),(75,F75.S)]⟩
theorem ZC4:F19.S.Ok Tryz.prog 19:=F19.ok Tryz.func19 (by kernel_rfl) ⟨ZDl,⟨ZAt,⟨ZEt,⟨ZC8,⟨ZEs,⟨ZDh,⟨ZC1,⟨ZEn,trivial⟩⟩⟩⟩⟩⟩⟩⟩
noncomputable def g19 (a c d e f h j k m n o:Int) (p:Bool) (q r s t u v w x y z A C D E G H J K L M:Int) (N:LL) (O P Q R T U:Int) (V:Bool) (W X Y Z:LL) (aa ab:Int) (ac ad ae af ag ah ai aj:LL) (ak al:Int) (am an ao ap aq ar aZ au:LL) (av:Bool) (aw:Int) (ax ay az a0 a1 a2 a3 a4:LL) (a5 a6 a7 a8 a9 ba bb bc bd be bf:Int) (bg:Bool) (bh bi bj bk bl bm bn bo bp bq br bs bt bu bv bw bx bz b0 b1:Int) (b2:LL) (b3 b4 b5 b6 b7 b8:Int) (b9:Bool) (ca cb cc cd:LL) (ce cf:Int) (cg ch ci cj ck cl cm cn:LL) (co cp:Int) (cq cr cs ct cu cv cw cx:LL) (cy:Bool) (cz:Int) (c0 c1 c2 c3 c4 c5 c6 c7:LL):Option (Bool):=F19.S.g [.i a,.i c,.i d,.i e,.i f,.i h,.i j,.i k,.i m,.i n,.i o,.b p,.i q,.i r,.i s,.i t,.i u,.i v,.i w,.i x,.i y,.i z,.i A,.i C,.i D,.i E,.i G,.i H,.i J,.i K,.i L,.i M,.l N,.i O,.i P,.i Q,.i R,.i T,.i U,.b V,.l W,.l X,.l Y,.l Z,.i aa,.i ab,.l ac,.l ad,.l ae,.l af,.l ag,.l ah,.l ai,.l aj,.i ak,.i al,.l am,.l an,.l ao,.l ap,.l aq,.l ar,.l aZ,.l au,.b av,.i aw,.l ax,.l ay,.l az,.l a0,.l a1,.l a2,.l a3,.l a4,.i a5,.i a6,.i a7,.i a8,.i a9,.i ba,.i bb,.i bc,.i bd,.i be,.i bf,.b bg,.i bh,.i bi,.i bj,.i bk,.i bl,.i bm,.i bn,.i bo,.i bp,.i bq,.i br,.i bs,.i bt,.i bu,.i bv,.i bw,.i bx,.i bz,.i b0,.i b1,.l b2,.i b3,.i b4,.i b5,.i b6,.i b7,.i b8,.b b9,.l ca,.l cb,.l cc,.l cd,.i ce,.i cf,.l cg,.l ch,.l ci,.l cj,.l ck,.l cl,.l cm,.l cn,.i co,.i cp,.l cq,.l cr,.l cs,.l ct,.l cu,.l cv,.l cw,.l cx,.b cy,.i cz,.l c0,.l c1,.l c2,.l c3,.l c4,.l c5,.l c6,.l c7]
theorem Zwf (a b c d e f g h i j k:Int) (l:Bool) (m n o p q r s t u v w x y z A C D E G H:Int) (J:LL) (K L M N O P:Int) (Q:Bool) (R T U V:LL) (W X:Int) (Y Z aa ab ac ad ae af:LL) (ag ah:Int) (ai aj ak al am an ao ap:LL) (aq:Bool) (ar:Int) (aZ au av aw ax ay az a0:LL) (a1 a2 a3 a4 a5 a6 a7 a8 a9 ba bb:Int) (bc:Bool) (bd be bf bg bh bi bj bk bl bm bn bo bp bq br bs bt bu bv bw:Int) (bx:LL) (bz b0 b1 b2 b3 b4:Int) (b5:Bool) (b6 b7 b8 b9:LL) (ca cb:Int) (cc cd ce cf cg ch ci cj:LL) (ck cl:Int) (cm cn co cp cq cr cs ct:LL) (cu:Bool) (cv:Int) (cw cx cy cz c0 c1 c2 c3:LL):g19 a b c d e f g h i j k l m n o p q r s t u v w x y z A C D E G H J K L M N O P Q R T U V W X Y Z aa ab ac ad ae af ag ah ai aj ak al am an ao ap aq ar aZ au av aw ax ay az a0 a1 a2 a3 a4 a5 a6 a7 a8 a9 ba bb bc bd be bf bg bh bi bj bk bl bm bn bo bp bq br bs bt bu bv bw bx bz b0 b1 b2 b3 b4 b5 b6 b7 b8 b9 ca cb cc cd ce cf cg ch ci cj ck cl cm cn co cp cq cr cs ct cu cv cw cx cy cz c0 c1 c2 c3 =
 (if (cop .neq a a1) then
 some (false)
 else
 if (cop .neq b a2) then
 some (false)
 else
 if (cop .neq c a3) then
 some (false)
 else
 if (cop .neq d a4) then
 some (false)
 else
 if (cop .neq e a5) then
 some (false)
 else
 if (cop .neq f a6) then
 some (false)
 else
 if (cop .neq g a7) then
 some (false)
 else
 if (!((cop .eql h a8)&&((cop .eql i a9)&&((cop .eql j ba)&&true)))) then
 some (false)
 else
 if (cop .neq k bb) then
 some (false)
 else
 if (!(l == bc)) then
 some (false)
 else
 if (cop .neq W ca) then
 some (false)
 else
 (g68 m n o p q r s t u v w x y z A C D E G H J K L M N O P Q bd be bf bg bh bi bj bk bl bm bn bo bp bq br bs bt bu bv bw bx bz b0 b1 b2 b3 b4 b5).bind fun c4=>
 if c4 then
 (g69 R b6).bind fun c5=>
 if c5 then
 (g70 T b7).bind fun c6=>
 if c6 then
 (g71 U b8).bind fun c7=>
 if c7 then
 (g72 V b9).bind fun c8=>
 if c8 then
 (g73 X Y Z cb cc cd).bind fun c9=>
 if c9 then
 (g74 aa ab ac ad ae af ce cf cg ch ci cj).bind fun da=>
 if da then
 (g75 ag ah ai aj ak al am an ao ap aq ar aZ au av aw ax ay az a0 ck cl cm cn co cp cq cr cs ct cu cv cw cx cy cz c0 c1 c2 c3).bind fun db=>
 some (db)
 else
 some (false)
 else
 some (false)
 else
 some (false)
 else
 some (false)
 else
 some (false)
 else
 some (false)
 else
 some (false)):=by kernel_rfl
noncomputable def F16:Fn:=⟨295,[2],[(60,[(1,.box hs0),(3,.box hs0),(4,.c (.bool)),(5,.c (.int .i64))])],[],0,[],[],Tryz.f16,[.agg hs0],[.c (.bool)],[(50,F50.S),(51,F51.S),(52,F52.S),(61,F61.S),(62,F62.S),(19,F19.S),(53,F53.S),(54,F54.S),(55,F55.S),(56,F56.S),(57,F57.S),(58,F58.S),(59,F59.S),(60,F60.S)]⟩
theorem ZC9:F16.S.Ok Tryz.prog 16:=F16.ok Tryz.func16 (by kernel_rfl) ⟨ZDc,⟨Zup,⟨ZDd,⟨Zux,⟨ZyP,⟨ZC4,⟨ZBX,⟨ZCN,⟨ZC3,⟨ZDE,⟨ZEC,⟨ZC0,⟨ZDj,⟨ZDD,trivial⟩⟩⟩⟩⟩⟩⟩⟩⟩⟩⟩⟩⟩⟩
noncomputable def g16 (a c d e f h j k m n o:Int) (p:Bool) (q r s t u v w x y z A C D E G H J K L M:Int) (N:LL) (O P Q R T U:Int) (V:Bool) (W X Y Z:LL) (aa ab:Int) (ac ad ae af ag ah ai aj:LL) (ak al:Int) (am an ao ap aq ar aZ au:LL) (av:Bool) (aw:Int) (ax ay az a0 a1 a2 a3 a4:LL):Option (Bool):=F16.S.g [.i a,.i c,.i d,.i e,.i f,.i h,.i j,.i k,.i m,.i n,.i o,.b p,.i q,.i r,.i s,.i t,.i u,.i v,.i w,.i x,.i y,.i z,.i A,.i C,.i D,.i E,.i G,.i H,.i J,.i K,.i L,.i M,.l N,.i O,.i P,.i Q,.i R,.i T,.i U,.b V,.l W,.l X,.l Y,.l Z,.i aa,.i ab,.l ac,.l ad,.l ae,.l af,.l ag,.l ah,.l ai,.l aj,.i ak,.i al,.l am,.l an,.l ao,.l ap,.l aq,.l ar,.l aZ,.l au,.b av,.i aw,.l ax,.l ay,.l az,.l a0,.l a1,.l a2,.l a3,.l a4]
noncomputable def YL (k:Nat) (a c d e f g h j m n o:Int) (p:Bool) (q r s t u v w x y z A C D E G H J K L M:Int) (N:LL) (O P Q R T U:Int) (V:Bool) (W X Y Z:LL) (aa ab:Int) (ac ad ae af ag ah ai aj:LL) (ak al:Int) (am an ao ap aq ar aZ au:LL) (av:Bool) (aw:Int) (ax ay az a0 a1 a2 a3 a4:LL) (a5 a6 a7 a8 a9 ba bb bc bd be bf:Int) (bg:Bool) (bh bi bj bk bl bm bn bo bp bq br bs bt bu bv bw bx bz b0 b1:Int) (b2:LL) (b3 b4 b5 b6 b7 b8:Int) (b9:Bool) (ca cb cc cd:LL) (ce cf:Int) (cg ch ci cj ck cl cm cn:LL) (co cp:Int) (cq cr cs ct cu cv cw cx:LL) (cy:Bool) (cz:Int) (c0 c1 c2 c3 c4 c5 c6 c7:LL) (c8:Bool) (c9:Int):Option (Bool):=F16.lp [1,1,0,1,0,1,0,1,0,2] 0 r0 k [.i a,.i c,.i d,.i e,.i f,.i g,.i h,.i j,.i m,.i n,.i o,.b p,.i q,.i r,.i s,.i t,.i u,.i v,.i w,.i x,.i y,.i z,.i A,.i C,.i D,.i E,.i G,.i H,.i J,.i K,.i L,.i M,.l N,.i O,.i P,.i Q,.i R,.i T,.i U,.b V,.l W,.l X,.l Y,.l Z,.i aa,.i ab,.l ac,.l ad,.l ae,.l af,.l ag,.l ah,.l ai,.l aj,.i ak,.i al,.l am,.l an,.l ao,.l ap,.l aq,.l ar,.l aZ,.l au,.b av,.i aw,.l ax,.l ay,.l az,.l a0,.l a1,.l a2,.l a3,.l a4,.i a5,.i a6,.i a7,.i a8,.i a9,.i ba,.i bb,.i bc,.i bd,.i be,.i bf,.b bg,.i bh,.i bi,.i bj,.i bk,.i bl,.i bm,.i bn,.i bo,.i bp,.i bq,.i br,.i bs,.i bt,.i bu,.i bv,.i bw,.i bx,.i bz,.i b0,.i b1,.l b2,.i b3,.i b4,.i b5,.i b6,.i b7,.i b8,.b b9,.l ca,.l cb,.l cc,.l cd,.i ce,.i cf,.l cg,.l ch,.l ci,.l cj,.l ck,.l cl,.l cm,.l cn,.i co,.i cp,.l cq,.l cr,.l cs,.l ct,.l cu,.l cv,.l cw,.l cx,.b cy,.i cz,.l c0,.l c1,.l c2,.l c3,.l c4,.l c5,.l c6,.l c7,.b c8,.i c9]
theorem ZkL (k:Nat) (d e f g h b i j l m n:Int) (o:Bool) (p q r s t u v w x y z A C D E G H J K L:Int) (M:LL) (N O P Q R T:Int) (U:Bool) (V c W X:LL) (Y Z:Int) (aa ab ac ad ae af ag ah:LL) (ai aj:Int) (ak al am an ao ap aq ar:LL) (aZ:Bool) (au:Int) (av aw ax ay az a0 a1 a2:LL) (a3 a4 a5 a6 a7 a8 a9 ba bb bc bd:Int) (be:Bool) (bf bg bh bi bj bk bl bm bn bo bp bq br bs bt bu bv bw bx bz:Int) (b0:LL) (b1 b2 b3 b4 b5 b6:Int) (b7:Bool) (b8 b9 ca cb:LL) (cc cd:Int) (ce cf cg ch ci cj ck cl:LL) (cm cn:Int) (co cp cq cr cs ct cu cv:LL) (cw:Bool) (cx:Int) (cy cz c0 c1 c2 c3 c4 c5:LL) (c6:Bool) (c7:Int):YL (k+1) d e f g h b i j l m n o p q r s t u v w x y z A C D E G H J K L M N O P Q R T U V c W X Y Z aa ab ac ad ae af ag ah ai aj ak al am an ao ap aq ar aZ au av aw ax ay az a0 a1 a2 a3 a4 a5 a6 a7 a8 a9 ba bb bc bd be bf bg bh bi bj bk bl bm bn bo bp bq br bs bt bu bv bw bx bz b0 b1 b2 b3 b4 b5 b6 b7 b8 b9 ca cb cc cd ce cf cg ch ci cj ck cl cm cn co cp cq cr cs ct cu cv cw cx cy cz c0 c1 c2 c3 c4 c5 c6 c7 =
 (if (cop .lss c7 (List.length c:Int)) then
 if c6 then
 Zm c c7 hs16 fun (a:Qt31)=>
 (g61 a.1 a.2.1 a.2.2.1 a.2.2.2.1 a.2.2.2.2.1 a.2.2.2.2.2.1 a.2.2.2.2.2.2.1 a.2.2.2.2.2.2.2.1 a.2.2.2.2.2.2.2.2.1 a.2.2.2.2.2.2.2.2.2.1 a.2.2.2.2.2.2.2.2.2.2).bind fun c9=>
 YL k d e f g h b i j l m n o p q r s t u v w x y z A C D E G H J K L M N O P Q R T U V c W X Y Z aa ab ac ad ae af ag ah ai aj ak al am an ao ap aq ar aZ au av aw ax ay az a0 a1 a2 a3 a4 a5 a6 a7 a8 a9 ba bb bc bd be bf bg bh bi bj bk bl bm bn bo bp bq br bs bt bu bv bw bx bz b0 b1 b2 b3 b4 b5 b6 b7 b8 b9 ca cb cc cd ce cf cg ch ci cj ck cl cm cn co cp cq cr cs ct cu cv cw cx cy cz c0 c1 c2 c3 c4 c5 c9 (iop .add .i64 c7 1)
 else
 if c6 then
 (g62 b).bind fun a=>
 if a then
 (g19 d e f g h b i j l m n o p q r s t u v w x y z A C D E G H J K L M N O P Q R T U V c W X Y Z aa ab ac ad ae af ag ah ai aj ak al am an ao ap aq ar aZ au av aw ax ay az a0 a1 a2 a3 a4 a5 a6 a7 a8 a9 ba bb bc bd be bf bg bh bi bj bk bl bm bn bo bp bq br bs bt bu bv bw bx bz b0 b1 b2 b3 b4 b5 b6 b7 b8 b9 ca cb cc cd ce cf cg ch ci cj ck cl cm cn co cp cq cr cs ct cu cv cw cx cy cz c0 c1 c2 c3 c4 c5).bind fun c8=>
 some (c8)
 else
 some (false)
 else
 some (false)
 else
 if c6 then
 (g62 b).bind fun a=>
 if a then
 (g19 d e f g h b i j l m n o p q r s t u v w x y z A C D E G H J K L M N O P Q R T U V c W X Y Z aa ab ac ad ae af ag ah ai aj ak al am an ao ap aq ar aZ au av aw ax ay az a0 a1 a2 a3 a4 a5 a6 a7 a8 a9 ba bb bc bd be bf bg bh bi bj bk bl bm bn bo bp bq br bs bt bu bv bw bx bz b0 b1 b2 b3 b4 b5 b6 b7 b8 b9 ca cb cc cd ce cf cg ch ci cj ck cl cm cn co cp cq cr cs ct cu cv cw cx cy cz c0 c1 c2 c3 c4 c5).bind fun c8=>
 some (c8)
 else
 some (false)
 else
 some (false)):=by kernel_rfl
theorem YB (a b c d h i m e f g l:Int) (y:Bool) (Z aa ab ac ad ae af ag ah ai aj ak al am an ao ap aq ar aZ:Int) (au:LL) (av aw ax ay az a0:Int) (a1:Bool) (x k j z:LL) (n o:Int) (p q r s t u v w:LL) (A C:Int) (D E G H J K L M:LL) (O:Bool) (P:Int) (Q R T U V W X Y:LL):g16 a b c d h i m e f g l y Z aa ab ac ad ae af ag ah ai aj ak al am an ao ap aq ar aZ au av aw ax ay az a0 a1 x k j z n o p q r s t u v w A C D E G H J K L M O P Q R T U V W X Y =
 (if (cop .lss a 1) then
 some (false)
 else
 if (cop .gtr a 17) then
 some (false)
 else
 (g50 b).bind fun a4=>
 if (!a4) then
 some (false)
 else
 (g51 c).bind fun a5=>
 if (!a5) then
 some (false)
 else
 (g51 d).bind fun a6=>
 if (!a6) then
 some (false)
 else
 if (cop .eql a 1) then
 (g52 Z aa ab ac ad ae af ag ah ai aj ak al am an ao ap aq ar aZ au av aw ax ay az a0 a1).bind fun a2=>
 YL Zr a b c d h i m e f g l y Z aa ab ac ad ae af ag ah ai aj ak al am an ao ap aq ar aZ au av aw ax ay az a0 a1 x k j z n o p q r s t u v w A C D E G H J K L M O P Q R T U V W X Y a b c d 0 i 0 0 0 0 0 false Z aa ab ac ad ae af ag ah ai aj ak al am an ao ap aq ar aZ au av aw ax ay az a0 a1 E0 E0 E0 E0 0 0 E0 E0 E0 E0 E0 E0 E0 E0 0 0 E0 E0 E0 E0 E0 E0 E0 E0 false 0 E0 E0 E0 E0 E0 E0 E0 E0 a2 0
 else
 if (cop .eql a 2) then
 (g53 e f g).bind fun a2=>
 if a2 then
 (g54 l).bind fun a3=>
 if a3 then
 YL Zr a b c d h i m e f g l y Z aa ab ac ad ae af ag ah ai aj ak al am an ao ap aq ar aZ au av aw ax ay az a0 a1 x k j z n o p q r s t u v w A C D E G H J K L M O P Q R T U V W X Y a b c d 0 i 0 e f g l y 0 0 0 0 0 0 0 0 0 0 0 0 0 0 0 0 0 0 0 0 E0 0 0 0 0 0 0 false E0 k E0 E0 0 0 E0 E0 E0 E0 E0 E0 E0 E0 0 0 E0 E0 E0 E0 E0 E0 E0 E0 false 0 E0 E0 E0 E0 E0 E0 E0 E0 (cop .leq (List.length k:Int) 8) 0
 else
 YL Zr a b c d h i m e f g l y Z aa ab ac ad ae af ag ah ai aj ak al am an ao ap aq ar aZ au av aw ax ay az a0 a1 x k j z n o p q r s t u v w A C D E G H J K L M O P Q R T U V W X Y a b c d 0 i 0 e f g l y 0 0 0 0 0 0 0 0 0 0 0 0 0 0 0 0 0 0 0 0 E0 0 0 0 0 0 0 false E0 k E0 E0 0 0 E0 E0 E0 E0 E0 E0 E0 E0 0 0 E0 E0 E0 E0 E0 E0 E0 E0 false 0 E0 E0 E0 E0 E0 E0 E0 E0 false 0
 else
 YL Zr a b c d h i m e f g l y Z aa ab ac ad ae af ag ah ai aj ak al am an ao ap aq ar aZ au av aw ax ay az a0 a1 x k j z n o p q r s t u v w A C D E G H J K L M O P Q R T U V W X Y a b c d 0 i 0 e f g l y 0 0 0 0 0 0 0 0 0 0 0 0 0 0 0 0 0 0 0 0 E0 0 0 0 0 0 0 false E0 k E0 E0 0 0 E0 E0 E0 E0 E0 E0 E0 E0 0 0 E0 E0 E0 E0 E0 E0 E0 E0 false 0 E0 E0 E0 E0 E0 E0 E0 E0 false 0
 else
 if (cop .eql a 4) then
 (g53 e f g).bind fun a2=>
 if a2 then
 if (cop .geq m 0) then
 if (cop .lss m 64) then
 YL Zr a b c d h i m e f g l y Z aa ab ac ad ae af ag ah ai aj ak al am an ao ap aq ar aZ au av aw ax ay az a0 a1 x k j z n o p q r s t u v w A C D E G H J K L M O P Q R T U V W X Y a b c d 0 i m e f g 0 false 0 0 0 0 0 0 0 0 0 0 0 0 0 0 0 0 0 0 0 0 E0 0 0 0 0 0 0 false E0 k E0 E0 0 0 E0 E0 E0 E0 E0 E0 E0 E0 0 0 E0 E0 E0 E0 E0 E0 E0 E0 false 0 E0 E0 E0 E0 E0 E0 E0 E0 (cop .eql (List.length k:Int) 1) 0
 else
 YL Zr a b c d h i m e f g l y Z aa ab ac ad ae af ag ah ai aj ak al am an ao ap aq ar aZ au av aw ax ay az a0 a1 x k j z n o p q r s t u v w A C D E G H J K L M O P Q R T U V W X Y a b c d 0 i m e f g 0 false 0 0 0 0 0 0 0 0 0 0 0 0 0 0 0 0 0 0 0 0 E0 0 0 0 0 0 0 false E0 k E0 E0 0 0 E0 E0 E0 E0 E0 E0 E0 E0 0 0 E0 E0 E0 E0 E0 E0 E0 E0 false 0 E0 E0 E0 E0 E0 E0 E0 E0 false 0
 else
 YL Zr a b c d h i m e f g l y Z aa ab ac ad ae af ag ah ai aj ak al am an ao ap aq ar aZ au av aw ax ay az a0 a1 x k j z n o p q r s t u v w A C D E G H J K L M O P Q R T U V W X Y a b c d 0 i m e f g 0 false 0 0 0 0 0 0 0 0 0 0 0 0 0 0 0 0 0 0 0 0 E0 0 0 0 0 0 0 false E0 k E0 E0 0 0 E0 E0 E0 E0 E0 E0 E0 E0 0 0 E0 E0 E0 E0 E0 E0 E0 E0 false 0 E0 E0 E0 E0 E0 E0 E0 E0 false 0
 else
 YL Zr a b c d h i m e f g l y Z aa ab ac ad ae af ag ah ai aj ak al am an ao ap aq ar aZ au av aw ax ay az a0 a1 x k j z n o p q r s t u v w A C D E G H J K L M O P Q R T U V W X Y a b c d 0 i m e f g 0 false 0 0 0 0 0 0 0 0 0 0 0 0 0 0 0 0 0 0 0 0 E0 0 0 0 0 0 0 false E0 k E0 E0 0 0 E0 E0 E0 E0 E0 E0 E0 E0 0 0 E0 E0 E0 E0 E0 E0 E0 E0 false 0 E0 E0 E0 E0 E0 E0 E0 E0 false 0
 else
 if (cop .eql a 5) then
 (g53 e f g).bind fun a2=>
 if a2 then
 (g54 l).bind fun a3=>
 YL Zr a b c d h i m e f g l y Z aa ab ac ad ae af ag ah ai aj ak al am an ao ap aq ar aZ au av aw ax ay az a0 a1 x k j z n o p q r s t u v w A C D E G H J K L M O P Q R T U V W X Y a b c d 0 i 0 e f g l false 0 0 0 0 0 0 0 0 0 0 0 0 0 0 0 0 0 0 0 0 E0 0 0 0 0 0 0 false E0 E0 E0 E0 0 0 E0 E0 E0 E0 E0 E0 E0 E0 0 0 E0 E0 E0 E0 E0 E0 E0 E0 false 0 E0 E0 E0 E0 E0 E0 E0 E0 a3 0
 else
 YL Zr a b c d h i m e f g l y Z aa ab ac ad ae af ag ah ai aj ak al am an ao ap aq ar aZ au av aw ax ay az a0 a1 x k j z n o p q r s t u v w A C D E G H J K L M O P Q R T U V W X Y a b c d 0 i 0 e f g l false 0 0 0 0 0 0 0 0 0 0 0 0 0 0 0 0 0 0 0 0 E0 0 0 0 0 0 0 false E0 E0 E0 E0 0 0 E0 E0 E0 E0 E0 E0 E0 E0 0 0 E0 E0 E0 E0 E0 E0 E0 E0 false 0 E0 E0 E0 E0 E0 E0 E0 E0 false 0
 else
 if (cop .eql a 6) then
 (g53 e f g).bind fun a2=>
 if a2 then
 (g55 x false).bind fun a3=>
 if a3 then
 YL Zr a b c d h i m e f g l y Z aa ab ac ad ae af ag ah ai aj ak al am an ao ap aq ar aZ au av aw ax ay az a0 a1 x k j z n o p q r s t u v w A C D E G H J K L M O P Q R T U V W X Y a b c d 0 i 0 e f g 0 false 0 0 0 0 0 0 0 0 0 0 0 0 0 0 0 0 0 0 0 0 E0 0 0 0 0 0 0 false x E0 E0 E0 0 0 E0 E0 E0 E0 E0 E0 E0 E0 0 0 E0 E0 E0 E0 E0 E0 E0 E0 false 0 E0 E0 E0 E0 E0 E0 E0 E0 (cop .leq (List.length x:Int) 64) 0
 else
 YL Zr a b c d h i m e f g l y Z aa ab ac ad ae af ag ah ai aj ak al am an ao ap aq ar aZ au av aw ax ay az a0 a1 x k j z n o p q r s t u v w A C D E G H J K L M O P Q R T U V W X Y a b c d 0 i 0 e f g 0 false 0 0 0 0 0 0 0 0 0 0 0 0 0 0 0 0 0 0 0 0 E0 0 0 0 0 0 0 false x E0 E0 E0 0 0 E0 E0 E0 E0 E0 E0 E0 E0 0 0 E0 E0 E0 E0 E0 E0 E0 E0 false 0 E0 E0 E0 E0 E0 E0 E0 E0 false 0
 else
 YL Zr a b c d h i m e f g l y Z aa ab ac ad ae af ag ah ai aj ak al am an ao ap aq ar aZ au av aw ax ay az a0 a1 x k j z n o p q r s t u v w A C D E G H J K L M O P Q R T U V W X Y a b c d 0 i 0 e f g 0 false 0 0 0 0 0 0 0 0 0 0 0 0 0 0 0 0 0 0 0 0 E0 0 0 0 0 0 0 false x E0 E0 E0 0 0 E0 E0 E0 E0 E0 E0 E0 E0 0 0 E0 E0 E0 E0 E0 E0 E0 E0 false 0 E0 E0 E0 E0 E0 E0 E0 E0 false 0
 else
 if (cop .eql a 12) then
 (g50 h).bind fun a2=>
 if a2 then
 (g56 j).bind fun a3=>
 YL Zr a b c d h i m e f g l y Z aa ab ac ad ae af ag ah ai aj ak al am an ao ap aq ar aZ au av aw ax ay az a0 a1 x k j z n o p q r s t u v w A C D E G H J K L M O P Q R T U V W X Y a b c d h 0 0 0 0 0 0 false 0 0 0 0 0 0 0 0 0 0 0 0 0 0 0 0 0 0 0 0 E0 0 0 0 0 0 0 false E0 E0 j E0 0 0 E0 E0 E0 E0 E0 E0 E0 E0 0 0 E0 E0 E0 E0 E0 E0 E0 E0 false 0 E0 E0 E0 E0 E0 E0 E0 E0 a3 0
 else
 YL Zr a b c d h i m e f g l y Z aa ab ac ad ae af ag ah ai aj ak al am an ao ap aq ar aZ au av aw ax ay az a0 a1 x k j z n o p q r s t u v w A C D E G H J K L M O P Q R T U V W X Y a b c d h 0 0 0 0 0 0 false 0 0 0 0 0 0 0 0 0 0 0 0 0 0 0 0 0 0 0 0 E0 0 0 0 0 0 0 false E0 E0 j E0 0 0 E0 E0 E0 E0 E0 E0 E0 E0 0 0 E0 E0 E0 E0 E0 E0 E0 E0 false 0 E0 E0 E0 E0 E0 E0 E0 E0 false 0
 else
 if (cop .eql a 13) then
 (g50 h).bind fun a2=>
 if a2 then
 (g57 A C D E G H J K L M O P Q R T U V W X Y).bind fun a3=>
 YL Zr a b c d h i m e f g l y Z aa ab ac ad ae af ag ah ai aj ak al am an ao ap aq ar aZ au av aw ax ay az a0 a1 x k j z n o p q r s t u v w A C D E G H J K L M O P Q R T U V W X Y a b c d h 0 0 0 0 0 0 false 0 0 0 0 0 0 0 0 0 0 0 0 0 0 0 0 0 0 0 0 E0 0 0 0 0 0 0 false E0 E0 E0 E0 0 0 E0 E0 E0 E0 E0 E0 E0 E0 A C D E G H J K L M O P Q R T U V W X Y a3 0
 else
 YL Zr a b c d h i m e f g l y Z aa ab ac ad ae af ag ah ai aj ak al am an ao ap aq ar aZ au av aw ax ay az a0 a1 x k j z n o p q r s t u v w A C D E G H J K L M O P Q R T U V W X Y a b c d h 0 0 0 0 0 0 false 0 0 0 0 0 0 0 0 0 0 0 0 0 0 0 0 0 0 0 0 E0 0 0 0 0 0 0 false E0 E0 E0 E0 0 0 E0 E0 E0 E0 E0 E0 E0 E0 A C D E G H J K L M O P Q R T U V W X Y false 0
 else
 if (cop .eql a 14) then
 (g50 h).bind fun a2=>
 if a2 then
 (g50 n).bind fun a3=>
 if a3 then
 (g56 j).bind fun a7=>
 if a7 then
 (g58 o p q).bind fun a8=>
 if a8 then
 (g59 r s t u v w).bind fun a9=>
 YL Zr a b c d h i m e f g l y Z aa ab ac ad ae af ag ah ai aj ak al am an ao ap aq ar aZ au av aw ax ay az a0 a1 x k j z n o p q r s t u v w A C D E G H J K L M O P Q R T U V W X Y a b c d h 0 0 0 0 0 0 false 0 0 0 0 0 0 0 0 0 0 0 0 0 0 0 0 0 0 0 0 E0 0 0 0 0 0 0 false E0 E0 j E0 n o p q r s t u v w 0 0 E0 E0 E0 E0 E0 E0 E0 E0 false 0 E0 E0 E0 E0 E0 E0 E0 E0 a9 0
 else
 YL Zr a b c d h i m e f g l y Z aa ab ac ad ae af ag ah ai aj ak al am an ao ap aq ar aZ au av aw ax ay az a0 a1 x k j z n o p q r s t u v w A C D E G H J K L M O P Q R T U V W X Y a b c d h 0 0 0 0 0 0 false 0 0 0 0 0 0 0 0 0 0 0 0 0 0 0 0 0 0 0 0 E0 0 0 0 0 0 0 false E0 E0 j E0 n o p q r s t u v w 0 0 E0 E0 E0 E0 E0 E0 E0 E0 false 0 E0 E0 E0 E0 E0 E0 E0 E0 false 0
 else
 YL Zr a b c d h i m e f g l y Z aa ab ac ad ae af ag ah ai aj ak al am an ao ap aq ar aZ au av aw ax ay az a0 a1 x k j z n o p q r s t u v w A C D E G H J K L M O P Q R T U V W X Y a b c d h 0 0 0 0 0 0 false 0 0 0 0 0 0 0 0 0 0 0 0 0 0 0 0 0 0 0 0 E0 0 0 0 0 0 0 false E0 E0 j E0 n o p q r s t u v w 0 0 E0 E0 E0 E0 E0 E0 E0 E0 false 0 E0 E0 E0 E0 E0 E0 E0 E0 false 0
 else
 YL Zr a b c d h i m e f g l y Z aa ab ac ad ae af ag ah ai aj ak al am an ao ap aq ar aZ au av aw ax ay az a0 a1 x k j z n o p q r s t u v w A C D E G H J K L M O P Q R T U V W X Y a b c d h 0 0 0 0 0 0 false 0 0 0 0 0 0 0 0 0 0 0 0 0 0 0 0 0 0 0 0 E0 0 0 0 0 0 0 false E0 E0 j E0 n o p q r s t u v w 0 0 E0 E0 E0 E0 E0 E0 E0 E0 false 0 E0 E0 E0 E0 E0 E0 E0 E0 false 0
 else
 YL Zr a b c d h i m e f g l y Z aa ab ac ad ae af ag ah ai aj ak al am an ao ap aq ar aZ au av aw ax ay az a0 a1 x k j z n o p q r s t u v w A C D E G H J K L M O P Q R T U V W X Y a b c d h 0 0 0 0 0 0 false 0 0 0 0 0 0 0 0 0 0 0 0 0 0 0 0 0 0 0 0 E0 0 0 0 0 0 0 false E0 E0 j E0 n o p q r s t u v w 0 0 E0 E0 E0 E0 E0 E0 E0 E0 false 0 E0 E0 E0 E0 E0 E0 E0 E0 false 0
 else
 if (cop .eql a 15) then
 (g50 h).bind fun a2=>
 YL Zr a b c d h i m e f g l y Z aa ab ac ad ae af ag ah ai aj ak al am an ao ap aq ar aZ au av aw ax ay az a0 a1 x k j z n o p q r s t u v w A C D E G H J K L M O P Q R T U V W X Y a b c d h 0 0 0 0 0 0 false 0 0 0 0 0 0 0 0 0 0 0 0 0 0 0 0 0 0 0 0 E0 0 0 0 0 0 0 false E0 E0 E0 E0 0 0 E0 E0 E0 E0 E0 E0 E0 E0 0 0 E0 E0 E0 E0 E0 E0 E0 E0 false 0 E0 E0 E0 E0 E0 E0 E0 E0 a2 0
 else
 if (cop .eql a 16) then
 (g50 h).bind fun a2=>
 YL Zr a b c d h i m e f g l y Z aa ab ac ad ae af ag ah ai aj ak al am an ao ap aq ar aZ au av aw ax ay az a0 a1 x k j z n o p q r s t u v w A C D E G H J K L M O P Q R T U V W X Y a b c d h 0 0 0 0 0 0 false 0 0 0 0 0 0 0 0 0 0 0 0 0 0 0 0 0 0 0 0 E0 0 0 0 0 0 0 false E0 E0 E0 E0 0 0 E0 E0 E0 E0 E0 E0 E0 E0 0 0 E0 E0 E0 E0 E0 E0 E0 E0 false 0 E0 E0 E0 E0 E0 E0 E0 E0 a2 0
 else
 if (cop .eql a 17) then
 (g56 j).bind fun a2=>
 if a2 then
 (g60 z).bind fun a3=>
 YL Zr a b c d h i m e f g l y Z aa ab ac ad ae af ag ah ai aj ak al am an ao ap aq ar aZ au av aw ax ay az a0 a1 x k j z n o p q r s t u v w A C D E G H J K L M O P Q R T U V W X Y a b c d 0 0 0 0 0 0 0 false 0 0 0 0 0 0 0 0 0 0 0 0 0 0 0 0 0 0 0 0 E0 0 0 0 0 0 0 false E0 E0 j z 0 0 E0 E0 E0 E0 E0 E0 E0 E0 0 0 E0 E0 E0 E0 E0 E0 E0 E0 false 0 E0 E0 E0 E0 E0 E0 E0 E0 a3 0
 else
 YL Zr a b c d h i m e f g l y Z aa ab ac ad ae af ag ah ai aj ak al am an ao ap aq ar aZ au av aw ax ay az a0 a1 x k j z n o p q r s t u v w A C D E G H J K L M O P Q R T U V W X Y a b c d 0 0 0 0 0 0 0 false 0 0 0 0 0 0 0 0 0 0 0 0 0 0 0 0 0 0 0 0 E0 0 0 0 0 0 0 false E0 E0 j z 0 0 E0 E0 E0 E0 E0 E0 E0 E0 0 0 E0 E0 E0 E0 E0 E0 E0 E0 false 0 E0 E0 E0 E0 E0 E0 E0 E0 false 0
 else
 (g53 e f g).bind fun a2=>
 YL Zr a b c d h i m e f g l y Z aa ab ac ad ae af ag ah ai aj ak al am an ao ap aq ar aZ au av aw ax ay az a0 a1 x k j z n o p q r s t u v w A C D E G H J K L M O P Q R T U V W X Y a b c d 0 i 0 e f g 0 false 0 0 0 0 0 0 0 0 0 0 0 0 0 0 0 0 0 0 0 0 E0 0 0 0 0 0 0 false E0 E0 E0 E0 0 0 E0 E0 E0 E0 E0 E0 E0 E0 0 0 E0 E0 E0 E0 E0 E0 E0 E0 false 0 E0 E0 E0 E0 E0 E0 E0 E0 a2 0):=by kernel_rfl
end Go.Proofs.YtjldbnbdcmfbmaaGreat
