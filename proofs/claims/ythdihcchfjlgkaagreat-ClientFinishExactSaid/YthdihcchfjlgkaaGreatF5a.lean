/- Functions of the program, as what they compute. -/
import Derived.Test.YthdihcchfjlgkaaGreatGT5
namespace Go.Proofs.YthdihcchfjlgkaaGreat
open Go Go.AM
set_option linter.unusedVariables false
set_option maxRecDepth 100000
noncomputable def F75:Fn:=⟨44,[2,3],[],[],0,[],[],Tryz.f75,[.c (.int .i64)],[.c (.own false 136),.c (.bool)],[]⟩
theorem ZAM:F75.S.Ok Tryz.prog 75:=F75.ok Tryz.func75 (by kernel_rfl) trivial
noncomputable def g75 (a:Int):Option (LL×Bool):=F75.S.g [.i a]
theorem YK (a:Int):g75 a =
 (if (cop .eql a 1) then
 some (((E0++[[AV.val (.int .i64 0)]])++[[AV.val (.int .i64 1)]]),true)
 else
 if (cop .eql a 2) then
 some ((((((E0++[[AV.val (.int .i64 0)]])++[[AV.val (.int .i64 2)]])++[[AV.val (.int .i64 3)]])++[[AV.val (.int .i64 4)]])++[[AV.val (.int .i64 5)]]),true)
 else
 if (cop .eql a 3) then
 some (((E0++[[AV.val (.int .i64 0)]])++[[AV.val (.int .i64 2)]]),true)
 else
 if (cop .eql a 7) then
 some (((E0++[[AV.val (.int .i64 0)]])++[[AV.val (.int .i64 2)]]),true)
 else
 if (cop .eql a 8) then
 some (((E0++[[AV.val (.int .i64 0)]])++[[AV.val (.int .i64 2)]]),true)
 else
 if (cop .eql a 9) then
 some (((E0++[[AV.val (.int .i64 0)]])++[[AV.val (.int .i64 2)]]),true)
 else
 if (cop .eql a 10) then
 some (((E0++[[AV.val (.int .i64 0)]])++[[AV.val (.int .i64 2)]]),true)
 else
 if (cop .eql a 11) then
 some (((E0++[[AV.val (.int .i64 0)]])++[[AV.val (.int .i64 2)]]),true)
 else
 if (cop .eql a 4) then
 some (((((E0++[[AV.val (.int .i64 0)]])++[[AV.val (.int .i64 2)]])++[[AV.val (.int .i64 6)]])++[[AV.val (.int .i64 5)]]),true)
 else
 if (cop .eql a 5) then
 some ((((E0++[[AV.val (.int .i64 0)]])++[[AV.val (.int .i64 2)]])++[[AV.val (.int .i64 3)]]),true)
 else
 if (cop .eql a 6) then
 some ((((E0++[[AV.val (.int .i64 0)]])++[[AV.val (.int .i64 2)]])++[[AV.val (.int .i64 7)]]),true)
 else
 if (cop .eql a 12) then
 some (((E0++[[AV.val (.int .i64 8)]])++[[AV.val (.int .i64 9)]]),true)
 else
 if (cop .eql a 13) then
 some (((E0++[[AV.val (.int .i64 8)]])++[[AV.val (.int .i64 10)]]),true)
 else
 if (cop .eql a 14) then
 some ((((((E0++[[AV.val (.int .i64 8)]])++[[AV.val (.int .i64 11)]])++[[AV.val (.int .i64 9)]])++[[AV.val (.int .i64 12)]])++[[AV.val (.int .i64 13)]]),true)
 else
 if (cop .eql a 15) then
 some ((E0++[[AV.val (.int .i64 8)]]),true)
 else
 if (cop .eql a 16) then
 some ((E0++[[AV.val (.int .i64 8)]]),true)
 else
 if (cop .eql a 17) then
 some (((E0++[[AV.val (.int .i64 9)]])++[[AV.val (.int .i64 14)]]),true)
 else
 some (E0,false)):=by kernel_rfl
noncomputable def F76:Fn:=⟨9,[2],[],[],0,[],[],Tryz.f76,[.c (.int .i64)],[.c (.bool)],[]⟩
theorem Zxp:F76.S.Ok Tryz.prog 76:=F76.ok Tryz.func76 (by kernel_rfl) trivial
noncomputable def g76 (a:Int):Option (Bool):=F76.S.g [.i a]
theorem Ztt (a:Int):g76 a =
 (if (cop .geq a 0) then
 some ((cop .leq a 1073741824))
 else
 some (false)):=by kernel_rfl
noncomputable def F77:Fn:=⟨9,[2],[],[],0,[],[],Tryz.f77,[.c (.int .i64)],[.c (.bool)],[]⟩
theorem Zqg:F77.S.Ok Tryz.prog 77:=F77.ok Tryz.func77 (by kernel_rfl) trivial
noncomputable def g77 (a:Int):Option (Bool):=F77.S.g [.i a]
theorem ZvC (a:Int):g77 a =
 (if (cop .geq a 0) then
 some ((cop .lss a 32))
 else
 some (false)):=by kernel_rfl
noncomputable def Zrg:Fn:=⟨9,[2],[],[],0,[],[],Tryz.f119,[.c (.int .i64)],[.c (.bool)],[]⟩
theorem ZnF:Zrg.S.Ok Tryz.prog 119:=Zrg.ok Tryz.func119 (by kernel_rfl) trivial
noncomputable def ZsO (a:Int):Option (Bool):=Zrg.S.g [.i a]
theorem Zru (a:Int):ZsO a =
 (if (cop .geq a 0) then
 some ((cop .lss a 16))
 else
 some (false)):=by kernel_rfl
noncomputable def ZqB:Fn:=⟨31,[2],[],[],0,[],[],Tryz.f129,[.agg [.int .i64,.int .i64,.int .i64]],[.c (.bool)],[]⟩
theorem ZoL:ZqB.S.Ok Tryz.prog 129:=ZqB.ok Tryz.func129 (by kernel_rfl) trivial
noncomputable def Zr4 (a b c:Int):Option (Bool):=ZqB.S.g [.i a,.i b,.i c]
theorem Zsj (a b c:Int):Zr4 a b c =
 (if (cop .geq a 0) then
 if (cop .lss a 32) then
 if (cop .geq b 1) then
 if (cop .leq b 1073741824) then
 if (cop .geq c 0) then
 some ((cop .lss c 8))
 else
 some (false)
 else
 some (false)
 else
 some (false)
 else
 some (false)
 else
 some (false)):=by kernel_rfl
noncomputable def ZrZ:Fn:=⟨10,[2],[],[],0,[],[],Tryz.f121,[.agg [.int .i64,.int .i64,.int .i64]],[.c (.bool)],[(129,ZqB.S)]⟩
theorem Zot:ZrZ.S.Ok Tryz.prog 121:=ZrZ.ok Tryz.func121 (by kernel_rfl) ⟨ZoL,trivial⟩
noncomputable def ZsQ (a b c:Int):Option (Bool):=ZrZ.S.g [.i a,.i b,.i c]
theorem ZrX (b c a:Int):ZsQ b c a =
 ((Zr4 b c a).bind fun d=>
 if d then
 some ((cop .eql a 0))
 else
 some (false)):=by kernel_rfl
noncomputable def Zuj:Fn:=⟨26,[4],[(4,[(0,.c (.slice 3)),(1,.c (.slice 3)),(12,.c (.int .i64)),(13,.c (.int .i64))])],[],0,[],[],Tryz.f170,[.c (.slice 3),.c (.slice 3)],[.c (.bool)],[]⟩
theorem ZxY:Zuj.S.Ok Tryz.prog 170:=Zuj.ok Tryz.func170 (by kernel_rfl) trivial
noncomputable def Zy9 (a b:LL):Option (Bool):=Zuj.S.g [.l a,.l b]
noncomputable def ZcR (k:Nat) (a b:LL) (c d:Int):Option (Bool):=Zuj.lp [1,0] 0 r0 k [.l a,.l b,.i c,.i d]
theorem Zg2 (k:Nat) (b c:LL) (d a:Int):ZcR (k+1) b c d a =
 (if (cop .lss a d) then
 Zl b a [.int .i64,.int .i64,.int .i64] fun (e:Int×Int×Int)=>
 Zl c a [.int .i64,.int .i64,.int .i64] fun (f:Int×Int×Int)=>
 if (!((cop .eql e.1 f.1)&&((cop .eql e.2.1 f.2.1)&&((cop .eql e.2.2 f.2.2)&&true)))) then
 some (false)
 else
 ZcR k b c d (iop .add .i64 a 1)
 else
 some (true)):=by kernel_rfl
theorem Zqr (a b:LL):Zy9 a b =
 (if (cop .neq (List.length a:Int) (List.length b:Int)) then
 some (false)
 else
 ZcR Zw a b (List.length a:Int) 0):=by kernel_rfl
noncomputable def ZsN:Fn:=⟨24,[4],[],[],0,[],[],Tryz.f156,[.agg hs10,.agg hs10],[.c (.bool)],[(170,Zuj.S)]⟩
theorem Zq0:ZsN.S.Ok Tryz.prog 156:=ZsN.ok Tryz.func156 (by kernel_rfl) ⟨ZxY,trivial⟩
noncomputable def Zp5 (a c d:Int) (e:LL) (f h j k m n:Int) (o:Bool) (p q r:Int) (s:LL) (t u v w x y:Int) (z:Bool):Option (Bool):=ZsN.S.g [.i a,.i c,.i d,.l e,.i f,.i h,.i j,.i k,.i m,.i n,.b o,.i p,.i q,.i r,.l s,.i t,.i u,.i v,.i w,.i x,.i y,.b z]
theorem ZqX (a b c:Int) (d:LL) (e f g h i j:Int) (k:Bool) (l m n:Int) (o:LL) (p q r s t u:Int) (v:Bool):Zp5 a b c d e f g h i j k l m n o p q r s t u v =
 (if ((cop .eql a l)&&((cop .eql b m)&&((cop .eql c n)&&true))) then
 if ((cop .eql e p)&&((cop .eql f q)&&((cop .eql g r)&&((cop .eql h s)&&((cop .eql i t)&&((cop .eql j u)&&((k == v)&&true))))))) then
 (Zy9 d o).bind fun w=>
 some (w)
 else
 some (false)
 else
 some (false)):=by kernel_rfl
noncomputable def Zw2:Fn:=⟨38,[4],[],[],0,[],[],Tryz.f171,[.c (.int .i64),.c (.int .i64)],[.c (.bool)],[]⟩
theorem ZxG:Zw2.S.Ok Tryz.prog 171:=Zw2.ok Tryz.func171 (by kernel_rfl) trivial
noncomputable def Zyp (a b:Int):Option (Bool):=Zw2.S.g [.i a,.i b]
theorem Zr3 (b a:Int):Zyp b a =
 (if (cop .eql b 1) then
 if (cop .geq a 6) then
 some ((cop .leq a 40))
 else
 some (false)
 else
 if (cop .eql b 2) then
 if (cop .geq a 12) then
 some ((cop .leq a 40))
 else
 some (false)
 else
 if (cop .eql b 3) then
 some ((cop .eql a 12))
 else
 if (cop .eql b 4) then
 some ((cop .eql a 6))
 else
 if (cop .eql b 5) then
 some ((cop .eql a 10))
 else
 if (cop .eql b 6) then
 some ((cop .eql a 16))
 else
 some (false)):=by kernel_rfl
noncomputable def Zw5:Fn:=⟨8,[2],[],[],0,[],[],Tryz.f173,[.agg hs16],[.agg [.int .i64,.int .i64]],[]⟩
theorem Zxo:Zw5.S.Ok Tryz.prog 173:=Zw5.ok Tryz.func173 (by kernel_rfl) trivial
noncomputable def Zyy (a c d e f h:Int) (j:Bool):Option (Int×Int):=Zw5.S.g [.i a,.i c,.i d,.i e,.i f,.i h,.b j]
theorem ZqM (c a b d e f:Int) (g:Bool):Zyy c a b d e f g =
 (some (a,b)):=by kernel_rfl
noncomputable def Zwv:Fn:=⟨32,[2],[],[],0,[],[],Tryz.f172,[.agg [.int .i64,.int .i64]],[.c (.bool)],[]⟩
theorem Zxx:Zwv.S.Ok Tryz.prog 172:=Zwv.ok Tryz.func172 (by kernel_rfl) trivial
noncomputable def Zzr (a b:Int):Option (Bool):=Zwv.S.g [.i a,.i b]
theorem Zr1 (b a:Int):Zzr b a =
 (if (cop .lss a 6) then
 some (false)
 else
 if (cop .gtr a 40) then
 some (false)
 else
 if (cop .lss b 0) then
 some (false)
 else
 ZA ((0:Int)≤a)<|
 ZA (((iop .shl .i64 1 a):Int)≠0)<|
 if (cop .eql (iop .rem .i64 b (iop .shl .i64 1 a)) 0) then
 some ((cop .leq b (iop .sub .i64 1099511627776 (iop .shl .i64 1 a))))
 else
 some (false)):=by kernel_rfl
noncomputable def ZwT:Fn:=⟨22,[4],[],[],0,[],[],Tryz.f174,[.c (.int .i64),.c (.int .i64)],[.c (.bool)],[]⟩
theorem Zy0:ZwT.S.Ok Tryz.prog 174:=ZwT.ok Tryz.func174 (by kernel_rfl) trivial
noncomputable def Zzb (a b:Int):Option (Bool):=ZwT.S.g [.i a,.i b]
theorem Zp0 (b a:Int):Zzb b a =
 (if (cop .eql b 32) then
 if (cop .geq a 0) then
 some ((cop .leq a 1))
 else
 some (false)
 else
 if (cop .eql b 39) then
 if (cop .geq a 0) then
 some ((cop .leq a 2))
 else
 some (false)
 else
 some (false)):=by kernel_rfl
noncomputable def Zwu:Fn:=⟨55,[2],[],[],0,[],[],Tryz.f158,[.agg hs16],[.c (.bool)],[(171,Zw2.S),(173,Zw5.S),(172,Zwv.S),(174,ZwT.S)]⟩
theorem ZxR:Zwu.S.Ok Tryz.prog 158:=Zwu.ok Tryz.func158 (by kernel_rfl) ⟨ZxG,⟨Zxo,⟨Zxx,⟨Zy0,trivial⟩⟩⟩⟩
noncomputable def Zyj (a c d e f h:Int) (j:Bool):Option (Bool):=Zwu.S.g [.i a,.i c,.i d,.i e,.i f,.i h,.b j]
theorem Zsl (a g f b c d:Int) (e:Bool):Zyj a g f b c d e =
 ((Zyp a f).bind fun i=>
 if (!i) then
 some (false)
 else
 (Zyy a g f b c d e).bind fun h=>
 (Zzr h.1 h.2).bind fun j=>
 if (!j) then
 some (false)
 else
 if (cop .lss b 0) then
 some (false)
 else
 if (cop .gtr b 7) then
 some (false)
 else
 if (cop .eql a 3) then
 (Zzb c d).bind fun k=>
 if (!k) then
 some (false)
 else
 if (!e) then
 some (true)
 else
 if (cop .eql a 1) then
 some (true)
 else
 some ((cop .eql a 2))
 else
 if (cop .neq c 0) then
 some (false)
 else
 if (cop .neq d 0) then
 some (false)
 else
 if (!e) then
 some (true)
 else
 if (cop .eql a 1) then
 some (true)
 else
 some ((cop .eql a 2))):=by kernel_rfl
noncomputable def Zut:Fn:=⟨19,[4],[(2,[(0,.c (.slice 3)),(3,.box [.int .i64,.int .i64,.int .i64]),(7,.c (.int .i64)),(8,.c (.int .i64))])],[],0,[],[],Tryz.f175,[.c (.slice 3),.agg [.int .i64,.int .i64,.int .i64]],[.c (.int .i64)],[]⟩
theorem ZxK:Zut.S.Ok Tryz.prog 175:=Zut.ok Tryz.func175 (by kernel_rfl) trivial
noncomputable def ZzU (a:LL) (b c d:Int):Option (Int):=Zut.S.g [.l a,.i b,.i c,.i d]
noncomputable def Zhw (k:Nat) (a:LL) (b c d e f:Int):Option (Int):=Zut.lp [0] 0 r0 k [.l a,.i b,.i c,.i d,.i e,.i f]
theorem ZgU (k:Nat) (b:LL) (c d e f a:Int):Zhw (k+1) b c d e f a =
 (if (cop .lss a f) then
 Zl b a [.int .i64,.int .i64,.int .i64] fun (g:Int×Int×Int)=>
 if ((cop .eql c g.1)&&((cop .eql d g.2.1)&&((cop .eql e g.2.2)&&true))) then
 some (a)
 else
 Zhw k b c d e f (iop .add .i64 a 1)
 else
 some ((-1))):=by kernel_rfl
theorem Zrn (a:LL) (b c d:Int):ZzU a b c d =
 (Zhw Zw a b c d (List.length a:Int) 0):=by kernel_rfl
noncomputable def Zww:Fn:=⟨9,[4],[],[],0,[],[],Tryz.f159,[.c (.slice 3),.agg [.int .i64,.int .i64,.int .i64]],[.c (.bool)],[(175,Zut.S)]⟩
theorem Zy1:Zww.S.Ok Tryz.prog 159:=Zww.ok Tryz.func159 (by kernel_rfl) ⟨ZxK,trivial⟩
noncomputable def Zxw (a:LL) (b c d:Int):Option (Bool):=Zww.S.g [.l a,.i b,.i c,.i d]
theorem Zsa (a:LL) (b c d:Int):Zxw a b c d =
 ((ZzU a b c d).bind fun e=>
 some ((cop .geq e 0))):=by kernel_rfl
noncomputable def Zol:Fn:=⟨47,[2],[(4,[(1,.box hs10),(22,.c (.slice 3)),(23,.c (.int .i64)),(24,.c (.int .i64))])],[],0,[],[],Tryz.f125,[.agg hs10],[.c (.bool)],[(129,ZqB.S),(158,Zwu.S),(159,Zww.S)]⟩
theorem Zmt:Zol.S.Ok Tryz.prog 125:=Zol.ok Tryz.func125 (by kernel_rfl) ⟨ZoL,⟨ZxR,⟨Zy1,trivial⟩⟩⟩
noncomputable def ZpI (a c d:Int) (e:LL) (f h j k m n:Int) (o:Bool):Option (Bool):=Zol.S.g [.i a,.i c,.i d,.l e,.i f,.i h,.i j,.i k,.i m,.i n,.b o]
noncomputable def Zj6 (k:Nat) (a c d:Int) (e:LL) (f g h j m n:Int) (o:Bool) (p:LL) (q r:Int):Option (Bool):=Zol.lp [0,1,0,1,1,0] 0 r0 k [.i a,.i c,.i d,.l e,.i f,.i g,.i h,.i j,.i m,.i n,.b o,.l p,.i q,.i r]
theorem Zgz (k:Nat) (d e f:Int) (c:LL) (i j l m n o:Int) (p:Bool) (g:LL) (h b:Int):Zj6 (k+1) d e f c i j l m n o p g h b =
 (if (cop .lss b h) then
 Zl g b [.int .i64,.int .i64,.int .i64] fun (a:Int×Int×Int)=>
 (Zr4 a.1 a.2.1 a.2.2).bind fun q=>
 if (!q) then
 some (false)
 else
 if ((cop .eql a.1 d)&&((cop .eql a.2.1 e)&&((cop .eql a.2.2 f)&&true))) then
 some (false)
 else
 ZA ((0:Int)≤b)<|
 ZA ((b:Int)≤(List.length c:Int))<|
 (Zxw (List.take (Int.toNat b) c) a.1 a.2.1 a.2.2).bind fun r=>
 if r then
 some (false)
 else
 Zj6 k d e f c i j l m n o p g h (iop .add .i64 b 1)
 else
 some (true)):=by kernel_rfl
theorem Zrz (b c d:Int) (a:LL) (e f g h i j:Int) (k:Bool):ZpI b c d a e f g h i j k =
 ((Zr4 b c d).bind fun l=>
 if (!l) then
 some (false)
 else
 (Zyj e f g h i j k).bind fun m=>
 if (!m) then
 some (false)
 else
 if (cop .gtr (List.length a:Int) 8) then
 some (false)
 else
 Zj6 Zw b c d a e f g h i j k a (List.length a:Int) 0):=by kernel_rfl
noncomputable def Zug:Fn:=⟨46,[2],[],[],0,[],[],Tryz.f120,[.agg hs3],[.c (.bool)],[(121,ZrZ.S),(119,Zrg.S),(156,ZsN.S),(125,Zol.S)]⟩
theorem Zu8:Zug.S.Ok Tryz.prog 120:=Zug.ok Tryz.func120 (by kernel_rfl) ⟨Zot,⟨ZnF,⟨Zq0,⟨Zmt,trivial⟩⟩⟩⟩
noncomputable def Zwk (a c d e f h j k m n o p q r s t u v w x:Int) (y:LL) (z A C D E G:Int) (H:Bool):Option (Bool):=Zug.S.g [.i a,.i c,.i d,.i e,.i f,.i h,.i j,.i k,.i m,.i n,.i o,.i p,.i q,.i r,.i s,.i t,.i u,.i v,.i w,.i x,.l y,.i z,.i A,.i C,.i D,.i E,.i G,.b H]
theorem Zrk (o p q b s t u v w x y z A C D r n c d e:Int) (f:LL) (g h i j k l:Int) (m:Bool):Zwk o p q b s t u v w x y z A C D r n c d e f g h i j k l m =
 ((ZsQ o p q).bind fun E=>
 if (!E) then
 some (false)
 else
 if (cop .lss b 1) then
 some (false)
 else
 if (cop .gtr b 6) then
 some (false)
 else
 (ZsO r).bind fun G=>
 if (!G) then
 some (false)
 else
 if (cop .neq n 32) then
 if (cop .neq n 39) then
 some (false)
 else
 if (cop .eql b 1) then
 (Zp5 c d e f g h i j k l m 0 0 0 E0 0 0 0 0 0 0 false).bind fun a=>
 some (a)
 else
 (ZpI c d e f g h i j k l m).bind fun a=>
 some (a)
 else
 if (cop .eql b 1) then
 (Zp5 c d e f g h i j k l m 0 0 0 E0 0 0 0 0 0 0 false).bind fun a=>
 some (a)
 else
 (ZpI c d e f g h i j k l m).bind fun a=>
 some (a)):=by kernel_rfl
noncomputable def Zvx:Fn:=⟨9,[2],[],[],0,[],[],Tryz.f122,[.c (.int .i64)],[.c (.bool)],[]⟩
theorem ZvN:Zvx.S.Ok Tryz.prog 122:=Zvx.ok Tryz.func122 (by kernel_rfl) trivial
noncomputable def Zws (a:Int):Option (Bool):=Zvx.S.g [.i a]
theorem Zri (a:Int):Zws a =
 (if (cop .geq a 0) then
 some ((cop .leq a 99))
 else
 some (false)):=by kernel_rfl
noncomputable def Zuq:Fn:=⟨9,[2],[],[],0,[],[],Tryz.f126,[.c (.int .i64)],[.c (.bool)],[]⟩
theorem Zun:Zuq.S.Ok Tryz.prog 126:=Zuq.ok Tryz.func126 (by kernel_rfl) trivial
noncomputable def ZwW (a:Int):Option (Bool):=Zuq.S.g [.i a]
theorem ZrO (a:Int):ZwW a =
 (if (cop .geq a 0) then
 some ((cop .lss a 64))
 else
 some (false)):=by kernel_rfl
noncomputable def ZtX:Fn:=⟨19,[4],[(2,[(0,.c (.slice 1)),(1,.c (.int .i64)),(7,.c (.int .i64)),(8,.c (.int .i64))])],[],0,[],[],Tryz.f115,[.c (.slice 1),.c (.int .i64)],[.c (.int .i64)],[]⟩
theorem Zxc:ZtX.S.Ok Tryz.prog 115:=ZtX.ok Tryz.func115 (by kernel_rfl) trivial
noncomputable def Zzg (a:LL) (b:Int):Option (Int):=ZtX.S.g [.l a,.i b]
noncomputable def Zef (k:Nat) (a:LL) (b c d:Int):Option (Int):=ZtX.lp [0] 0 r0 k [.l a,.i b,.i c,.i d]
theorem ZgI (k:Nat) (b:LL) (c d a:Int):Zef (k+1) b c d a =
 (if (cop .lss a d) then
 Zl b a [.int .i64] fun (e:Int)=>
 if (cop .eql c e) then
 some (a)
 else
 Zef k b c d (iop .add .i64 a 1)
 else
 some ((-1))):=by kernel_rfl
theorem ZrJ (a:LL) (b:Int):Zzg a b =
 (Zef Zw a b (List.length a:Int) 0):=by kernel_rfl
noncomputable def F67:Fn:=⟨9,[4],[],[],0,[],[],Tryz.f67,[.c (.slice 1),.c (.int .i64)],[.c (.bool)],[(115,ZtX.S)]⟩
theorem ZAi:F67.S.Ok Tryz.prog 67:=F67.ok Tryz.func67 (by kernel_rfl) ⟨Zxc,trivial⟩
noncomputable def g67 (a:LL) (b:Int):Option (Bool):=F67.S.g [.l a,.i b]
theorem ZtD (a:LL) (b:Int):g67 a b =
 ((Zzg a b).bind fun c=>
 some ((cop .geq c 0))):=by kernel_rfl
noncomputable def ZwP:Fn:=⟨6,[2],[],[],0,[],[],Tryz.f162,[.c (.int .i64)],[.c (.bool)],[(77,F77.S)]⟩
theorem ZyU:ZwP.S.Ok Tryz.prog 162:=ZwP.ok Tryz.func162 (by kernel_rfl) ⟨Zqg,trivial⟩
noncomputable def Zy5 (a:Int):Option (Bool):=ZwP.S.g [.i a]
theorem Zst (a:Int):Zy5 a =
 ((g77 a).bind fun b=>
 some ((!b))):=by kernel_rfl
noncomputable def ZaU:Fn:=⟨19,[4],[(2,[(0,.c (.slice 1)),(1,.clo 162 []),(7,.c (.int .i64)),(8,.c (.int .i64))])],[],0,[],[],Tryz.f161,[.c (.slice 1),.clo 162 []],[.c (.int .i64)],[(162,ZwP.S)]⟩
theorem ZlU:ZaU.S.Ok Tryz.prog 161:=ZaU.ok Tryz.func161 (by kernel_rfl) ⟨ZyU,trivial⟩
noncomputable def ZfW (a:LL):Option (Int):=ZaU.S.g [.l a]
noncomputable def Ku (k:Nat) (a:LL) (b c:Int):Option (Int):=ZaU.lp [0] 0 r0 k [.l a,.i b,.i c]
theorem Za9 (k:Nat) (b:LL) (c a:Int):Ku (k+1) b c a =
 (if (cop .lss a c) then
 Zl b a [.int .i64] fun (d:Int)=>
 (Zy5 d).bind fun e=>
 if e then
 some (a)
 else
 Ku k b c (iop .add .i64 a 1)
 else
 some ((-1))):=by kernel_rfl
theorem ZiH (a:LL):ZfW a =
 (Ku Zw a (List.length a:Int) 0):=by kernel_rfl
noncomputable def Zcf:Fn:=⟨9,[4],[],[],0,[],[],Tryz.f130,[.c (.slice 1),.clo 162 []],[.c (.bool)],[(161,ZaU.S)]⟩
theorem ZmX:Zcf.S.Ok Tryz.prog 130:=Zcf.ok Tryz.func130 (by kernel_rfl) ⟨ZlU,trivial⟩
noncomputable def ZfC (a:LL):Option (Bool):=Zcf.S.g [.l a]
theorem Zie (a:LL):ZfC a =
 ((ZfW a).bind fun b=>
 some ((cop .geq b 0))):=by kernel_rfl
noncomputable def ZsE:Fn:=⟨45,[2],[(4,[(1,.box [.int .i64,.slice 1,.slice 1]),(22,.c (.slice 1)),(23,.c (.int .i64)),(24,.c (.int .i64))])],[],0,[],[],Tryz.f135,[.agg [.int .i64,.slice 1,.slice 1]],[.c (.bool)],[(76,F76.S),(77,F77.S),(67,F67.S),(130,Zcf.S)]⟩
theorem Zux:ZsE.S.Ok Tryz.prog 135:=ZsE.ok Tryz.func135 (by kernel_rfl) ⟨Zxp,⟨Zqg,⟨ZAi,⟨ZmX,trivial⟩⟩⟩⟩
noncomputable def Zu2 (a:Int) (b c:LL):Option (Bool):=ZsE.S.g [.i a,.l b,.l c]
noncomputable def ZcT (k:Nat) (a:Int) (b c d:LL) (e f:Int):Option (Bool):=ZsE.lp [0,1,1,1,0] 0 r0 k [.i a,.l b,.l c,.l d,.i e,.i f]
theorem Zhp (k:Nat) (g:Int) (b d e:LL) (f a:Int):ZcT (k+1) g b d e f a =
 (if (cop .lss a f) then
 Zl e a [.int .i64] fun (c:Int)=>
 (g77 c).bind fun h=>
 if (!h) then
 some (false)
 else
 ZA ((0:Int)≤a)<|
 ZA ((a:Int)≤(List.length b:Int))<|
 (g67 (List.take (Int.toNat a) b) c).bind fun i=>
 if i then
 some (false)
 else
 ZcT k g b d e f (iop .add .i64 a 1)
 else
 (ZfC d).bind fun c=>
 some ((!c))):=by kernel_rfl
theorem Zsb (b:Int) (a c:LL):Zu2 b a c =
 ((g76 b).bind fun d=>
 if (!d) then
 some (false)
 else
 if (cop .gtr (List.length a:Int) 32) then
 some (false)
 else
 if (cop .gtr (List.length c:Int) 16) then
 some (false)
 else
 ZcT Zw b a c a (List.length a:Int) 0):=by kernel_rfl
noncomputable def Zrd:Fn:=⟨8,[2],[],[],0,[],[],Tryz.f144,[.agg hs8],[.c (.bool)],[]⟩
theorem Zoq:Zrd.S.Ok Tryz.prog 144:=Zrd.ok Tryz.func144 (by kernel_rfl) trivial
noncomputable def ZsC (a c d:Int) (e:LL) (f h j k m n:Int) (o:Bool) (p q r s:Int):Option (Bool):=Zrd.S.g [.i a,.i c,.i d,.l e,.i f,.i h,.i j,.i k,.i m,.i n,.b o,.i p,.i q,.i r,.i s]
theorem Zh7 (a b c:Int) (d:LL) (e f g h i j:Int) (k:Bool) (l m n o:Int):ZsC a b c d e f g h i j k l m n o =
 (some (((cop .eql a 0)&&((cop .eql b 0)&&((cop .eql c 0)&&true))))):=by kernel_rfl
noncomputable def Zwz:Fn:=⟨43,[2],[],[],0,[],[],Tryz.f176,[.agg hs8],[.c (.bool)],[(144,Zrd.S),(156,ZsN.S),(125,Zol.S),(129,ZqB.S)]⟩
theorem ZxL:Zwz.S.Ok Tryz.prog 176:=Zwz.ok Tryz.func176 (by kernel_rfl) ⟨Zoq,⟨Zq0,⟨Zmt,⟨ZoL,trivial⟩⟩⟩⟩
noncomputable def Zxh (a c d:Int) (e:LL) (f h j k m n:Int) (o:Bool) (p q r s:Int):Option (Bool):=Zwz.S.g [.i a,.i c,.i d,.l e,.i f,.i h,.i j,.i k,.i m,.i n,.b o,.i p,.i q,.i r,.i s]
theorem ZrW (d e f:Int) (g:LL) (h i j k l m:Int) (n:Bool) (o b c a:Int):Zxh d e f g h i j k l m n o b c a =
 (if (cop .lss o 0) then
 some (false)
 else
 if (cop .gtr o 1073741824) then
 some (false)
 else
 (ZsC d e f g h i j k l m n o b c a).bind fun q=>
 if q then
 (Zp5 d e f g h i j k l m n 0 0 0 E0 0 0 0 0 0 0 false).bind fun p=>
 if p then
 some (((cop .eql b 0)&&((cop .eql c 0)&&((cop .eql a 0)&&true))))
 else
 some (false)
 else
 (ZpI d e f g h i j k l m n).bind fun p=>
 if p then
 if ((cop .eql b 0)&&((cop .eql c 0)&&((cop .eql a 0)&&true))) then
 some (true)
 else
 (Zr4 b c a).bind fun r=>
 if r then
 some ((cop .eql a 0))
 else
 some (false)
 else
 some (false)):=by kernel_rfl
noncomputable def ZsX:Fn:=⟨27,[4,5],[(2,[(3,.box [.int .i64,.int .i64,.int .i64]),(8,.c (.slice 15)),(9,.c (.int .i64)),(10,.c (.int .i64))])],[],0,[],[],Tryz.f143,[.c (.slice 15),.agg [.int .i64,.int .i64,.int .i64]],[.c (.int .i64),.c (.bool)],[(144,Zrd.S)]⟩
theorem ZuA:ZsX.S.Ok Tryz.prog 143:=ZsX.ok Tryz.func143 (by kernel_rfl) ⟨Zoq,trivial⟩
noncomputable def ZwN (a:LL) (b c d:Int):Option (Int×Bool):=ZsX.S.g [.l a,.i b,.i c,.i d]
noncomputable def ZcF (k:Nat) (a b c:Int) (d:LL) (e f:Int):Option (Int×Bool):=ZsX.lp [0] 0 r0 k [.i a,.i b,.i c,.l d,.i e,.i f]
theorem Zgm (k:Nat) (c d e:Int) (f:LL) (g b:Int):ZcF (k+1) c d e f g b =
 (if (cop .lss b g) then
 Zl f b hs8 fun (a:Qt13)=>
 (ZsC a.1 a.2.1 a.2.2.1 a.2.2.2.1 a.2.2.2.2.1 a.2.2.2.2.2.1 a.2.2.2.2.2.2.1 a.2.2.2.2.2.2.2.1 a.2.2.2.2.2.2.2.2.1 a.2.2.2.2.2.2.2.2.2.1 a.2.2.2.2.2.2.2.2.2.2.1 a.2.2.2.2.2.2.2.2.2.2.2.1 (d4 (d8 a)).1 (d4 (d8 a)).2.1 (d2 (d4 (d8 a)))).bind fun h=>
 if (!h) then
 if ((cop .eql a.1 c)&&((cop .eql a.2.1 d)&&((cop .eql a.2.2.1 e)&&true))) then
 some (b,true)
 else
 ZcF k c d e f g (iop .add .i64 b 1)
 else
 ZcF k c d e f g (iop .add .i64 b 1)
 else
 some (0,false)):=by kernel_rfl
theorem Zsd (a:LL) (b c d:Int):ZwN a b c d =
 (ZcF Zw b c d a (List.length a:Int) 0):=by kernel_rfl
noncomputable def ZvU:Fn:=⟨32,[2],[(4,[(0,.c (.slice 15)),(10,.c (.slice 15)),(11,.c (.int .i64)),(12,.c (.int .i64))])],[],0,[],[],Tryz.f163,[.c (.slice 15)],[.c (.bool)],[(176,Zwz.S),(143,ZsX.S)]⟩
theorem ZxJ:ZvU.S.Ok Tryz.prog 163:=ZvU.ok Tryz.func163 (by kernel_rfl) ⟨ZxL,⟨ZuA,trivial⟩⟩
noncomputable def ZyO (a:LL):Option (Bool):=ZvU.S.g [.l a]
noncomputable def Zej (k:Nat) (a b:LL) (c d:Int):Option (Bool):=ZvU.lp [1,0] 0 r0 k [.l a,.l b,.i c,.i d]
theorem Zhl (k:Nat) (c d:LL) (e b:Int):Zej (k+1) c d e b =
 (if (cop .lss b e) then
 Zl d b hs8 fun (a:Qt13)=>
 (Zxh a.1 a.2.1 a.2.2.1 a.2.2.2.1 a.2.2.2.2.1 a.2.2.2.2.2.1 a.2.2.2.2.2.2.1 a.2.2.2.2.2.2.2.1 a.2.2.2.2.2.2.2.2.1 a.2.2.2.2.2.2.2.2.2.1 a.2.2.2.2.2.2.2.2.2.2.1 a.2.2.2.2.2.2.2.2.2.2.2.1 (d4 (d8 a)).1 (d4 (d8 a)).2.1 (d2 (d4 (d8 a)))).bind fun f=>
 if (!f) then
 some (false)
 else
 ZA ((0:Int)≤b)<|
 ZA ((b:Int)≤(List.length c:Int))<|
 (ZwN (List.take (Int.toNat b) c) a.1 a.2.1 a.2.2.1).bind fun g=>
 if g.2 then
 some (false)
 else
 Zej k c d e (iop .add .i64 b 1)
 else
 some (true)):=by kernel_rfl
theorem ZrY (a:LL):ZyO a =
 (if (cop .gtr (List.length a:Int) 64) then
 some (false)
 else
 Zej Zw a a (List.length a:Int) 0):=by kernel_rfl
noncomputable def ZwJ:Fn:=⟨6,[2],[],[],0,[],[],Tryz.f178,[.agg hs3],[.c (.bool)],[(120,Zug.S)]⟩
theorem Zxa:ZwJ.S.Ok Tryz.prog 178:=ZwJ.ok Tryz.func178 (by kernel_rfl) ⟨Zu8,trivial⟩
noncomputable def Zzo (a c d e f h j k m n o p q r s t u v w x:Int) (y:LL) (z A C D E G:Int) (H:Bool):Option (Bool):=ZwJ.S.g [.i a,.i c,.i d,.i e,.i f,.i h,.i j,.i k,.i m,.i n,.i o,.i p,.i q,.i r,.i s,.i t,.i u,.i v,.i w,.i x,.l y,.i z,.i A,.i C,.i D,.i E,.i G,.b H]
theorem Zqw (a b c d e f g h i j k l m n o p q r s t:Int) (u:LL) (v w x y z A:Int) (C:Bool):Zzo a b c d e f g h i j k l m n o p q r s t u v w x y z A C =
 ((Zwk a b c d e f g h i j k l m n o p q r s t u v w x y z A C).bind fun D=>
 some ((!D))):=by kernel_rfl
noncomputable def Zdy:Fn:=⟨19,[4],[(2,[(0,.c (.slice 28)),(1,.clo 178 []),(7,.c (.int .i64)),(8,.c (.int .i64))])],[],0,[],[],Tryz.f37,[.c (.slice 28),.clo 178 []],[.c (.int .i64)],[(178,ZwJ.S)]⟩
theorem Zoe:Zdy.S.Ok Tryz.prog 37:=Zdy.ok Tryz.func37 (by kernel_rfl) ⟨Zxa,trivial⟩
noncomputable def ZiN (a:LL):Option (Int):=Zdy.S.g [.l a]
noncomputable def KZ (k:Nat) (a:LL) (b c:Int):Option (Int):=Zdy.lp [0] 0 r0 k [.l a,.i b,.i c]
theorem ZbL (k:Nat) (c:LL) (d b:Int):KZ (k+1) c d b =
 (if (cop .lss b d) then
 Zl c b hs3 fun (a:Qt7)=>
 (Zzo a.1 a.2.1 a.2.2.1 a.2.2.2.1 a.2.2.2.2.1 a.2.2.2.2.2.1 a.2.2.2.2.2.2.1 a.2.2.2.2.2.2.2.1 a.2.2.2.2.2.2.2.2.1 a.2.2.2.2.2.2.2.2.2.1 a.2.2.2.2.2.2.2.2.2.2.1 a.2.2.2.2.2.2.2.2.2.2.2.1 (d4 (d8 a)).1 (d4 (d8 a)).2.1 (d2 (d4 (d8 a))).1 (d2 (d4 (d8 a))).2.1 (d16 a).1 (d16 a).2.1 (d2 (d16 a)).1 (d2 (d16 a)).2.1 (d4 (d16 a)).1 (d4 (d16 a)).2.1 (d2 (d4 (d16 a))).1 (d2 (d4 (d16 a))).2.1 (d8 (d16 a)).1 (d8 (d16 a)).2.1 (d2 (d8 (d16 a))).1 (d2 (d8 (d16 a))).2).bind fun e=>
 if e then
 some (b)
 else
 KZ k c d (iop .add .i64 b 1)
 else
 some ((-1))):=by kernel_rfl
theorem Zky (a:LL):ZiN a =
 (KZ Zw a (List.length a:Int) 0):=by kernel_rfl
noncomputable def Zcp:Fn:=⟨9,[4],[],[],0,[],[],Tryz.f177,[.c (.slice 28),.clo 178 []],[.c (.bool)],[(37,Zdy.S)]⟩
theorem Zmk:Zcp.S.Ok Tryz.prog 177:=Zcp.ok Tryz.func177 (by kernel_rfl) ⟨Zoe,trivial⟩
noncomputable def ZfM (a:LL):Option (Bool):=Zcp.S.g [.l a]
theorem ZiX (a:LL):ZfM a =
 ((ZiN a).bind fun b=>
 some ((cop .geq b 0))):=by kernel_rfl
noncomputable def Zwe:Fn:=⟨6,[2],[],[],0,[],[],Tryz.f154,[.c (.int .i64)],[.c (.bool)],[]⟩
theorem Zzc:Zwe.S.Ok Tryz.prog 154:=Zwe.ok Tryz.func154 (by kernel_rfl) trivial
noncomputable def ZwK (a:Int):Option (Bool):=Zwe.S.g [.i a]
theorem ZrR (a:Int):ZwK a =
 (some ((cop .neq a a))):=by kernel_rfl
noncomputable def Zwt:Fn:=⟨20,[4],[],[],0,[],[],Tryz.f117,[.c (.int .i64),.c (.int .i64)],[.c (.int .i64)],[(154,Zwe.S)]⟩
theorem Zzw:Zwt.S.Ok Tryz.prog 117:=Zwt.ok Tryz.func117 (by kernel_rfl) ⟨Zzc,trivial⟩
noncomputable def Zvj (a b:Int):Option (Int):=Zwt.S.g [.i a,.i b]
theorem ZqR (a b:Int):Zvj a b =
 ((ZwK a).bind fun d=>
 (ZwK b).bind fun c=>
 if d then
 if c then
 some (0)
 else
 some ((-1))
 else
 if c then
 some (1)
 else
 if (cop .lss a b) then
 some ((-1))
 else
 if (cop .gtr a b) then
 some (1)
 else
 some (0)):=by kernel_rfl
noncomputable def Ztm:Fn:=⟨18,[2],[(3,[(3,.c (.int .i64)),(6,.c (.slice 1)),(7,.c (.int .i64)),(8,.c (.int .i64))])],[],0,[],[],Tryz.f116,[.c (.slice 1)],[.c (.int .i64)],[]⟩
theorem Zxl:Ztm.S.Ok Tryz.prog 116:=Ztm.ok Tryz.func116 (by kernel_rfl) trivial
noncomputable def Zx4 (a:LL):Option (Int):=Ztm.S.g [.l a]
noncomputable def Zna (k:Nat) (a:Int) (b:LL) (c d:Int):Option (Int):=Ztm.lp [0] 0 r0 k [.i a,.l b,.i c,.i d]
theorem Zax (k:Nat) (a:Int) (c:LL) (d b:Int):Zna (k+1) a c d b =
 (if (cop .lss b d) then
 Zl c b [.int .i64] fun (e:Int)=>
 if (cop .neq e a) then
 some (e)
 else
 Zna k a c d (iop .add .i64 b 1)
 else
 some (a)):=by kernel_rfl
theorem ZrE (a:LL):Zx4 a =
 (Zna Zw 0 a (List.length a:Int) 0):=by kernel_rfl
noncomputable def F69:Fn:=⟨22,[4],[],[],0,[],[],Tryz.f69,[.agg [.int .i64,.int .i64,.int .i64],.agg [.int .i64,.int .i64,.int .i64]],[.c (.int .i64)],[(117,Zwt.S),(116,Ztm.S)]⟩
theorem ZBF:F69.S.Ok Tryz.prog 69:=F69.ok Tryz.func69 (by kernel_rfl) ⟨Zzw,⟨Zxl,trivial⟩⟩
noncomputable def g69 (a b c d e f:Int):Option (Int):=F69.S.g [.i a,.i b,.i c,.i d,.i e,.i f]
theorem ZtZ (a b c d e f:Int):g69 a b c d e f =
 ((Zvj a d).bind fun g=>
 (Zvj b e).bind fun h=>
 (Zvj c f).bind fun i=>
 (Zx4 (((E0++[[AV.val (.int .i64 g)]])++[[AV.val (.int .i64 h)]])++[[AV.val (.int .i64 i)]])).bind fun j=>
 some (j)):=by kernel_rfl
noncomputable def F39:Fn:=⟨9,[4],[],[],0,[],[],Tryz.f39,[.agg [.int .i64,.int .i64,.int .i64],.agg [.int .i64,.int .i64,.int .i64]],[.c (.bool)],[(69,F69.S)]⟩
theorem Zxu:F39.S.Ok Tryz.prog 39:=F39.ok Tryz.func39 (by kernel_rfl) ⟨ZBF,trivial⟩
noncomputable def g39 (a b c d e f:Int):Option (Bool):=F39.S.g [.i a,.i b,.i c,.i d,.i e,.i f]
theorem ZtJ (a b c d e f:Int):g39 a b c d e f =
 ((g69 a b c d e f).bind fun g=>
 some ((cop .lss g 0))):=by kernel_rfl
noncomputable def ZwS:Fn:=⟨17,[5],[],[2],0,[],[],Tryz.f179,[.c (.int .i64),.c (.int .i64),.box [.slice 28]],[.c (.bool)],[(39,F39.S)]⟩
theorem ZyV:ZwS.S.Ok Tryz.prog 179:=ZwS.ok Tryz.func179 (by kernel_rfl) ⟨Zxu,trivial⟩
noncomputable def Zzt (a b:Int) (c:LL):Option (Bool×LL):=ZwS.S.g [.i a,.i b,.l c]
theorem Zrt (d e:Int) (a:LL):Zzt d e a =
 (Zl a d hs3 fun (b:Qt7)=>
 Zl a e hs3 fun (c:Qt7)=>
 (g39 b.1 b.2.1 b.2.2.1 c.1 c.2.1 c.2.2.1).bind fun f=>
 some (f,a)):=by kernel_rfl
noncomputable def Zan:Fn:=⟨17,[4],[(2,[(0,.c (.int .i64)),(1,.clo 179 [17]),(5,.c (.int .i64)),(17,.gbox [.slice 28])])],[],1,[],[],Tryz.f132,[.c (.int .i64),.clo 179 [17],.dead,.dead,.dead,.dead,.dead,.dead,.dead,.dead,.dead,.dead,.dead,.dead,.dead,.dead,.dead,.gbox [.slice 28]],[.c (.bool)],[(179,ZwS.S)]⟩
theorem Zmv:Zan.S.Ok Tryz.prog 132:=Zan.ok Tryz.func132 (by kernel_rfl) ⟨ZyV,trivial⟩
noncomputable def ZfX (a:Int) (b:LL):Option (Bool×LL):=Zan.S.g [.i a,.l b]
noncomputable def Kk (k:Nat) (a b:Int) (c:LL):Option (Bool×LL):=Zan.lp [0] 0 r0 k [.i a,.i b,.l c]
theorem Za1 (k:Nat) (b a:Int) (c:LL):Kk (k+1) b a c =
 (if (cop .lss a b) then
 (Zzt (iop .sub .i64 a 1) a c).bind fun d=>
 if (!d.1) then
 some (false,d.2)
 else
 Kk k b (iop .add .i64 a 1) d.2
 else
 some (true,c)):=by kernel_rfl
theorem Zir (a:Int) (b:LL):ZfX a b =
 (Kk Zw a 1 b):=by kernel_rfl
noncomputable def Zwl:Fn:=⟨12,[2],[],[],0,[],[],Tryz.f164,[.c (.slice 28)],[.c (.bool)],[(177,Zcp.S),(132,Zan.S)]⟩
theorem Zzn:Zwl.S.Ok Tryz.prog 164:=Zwl.ok Tryz.func164 (by kernel_rfl) ⟨Zmk,⟨Zmv,trivial⟩⟩
noncomputable def Zxb (a:LL):Option (Bool):=Zwl.S.g [.l a]
theorem Zqq (a:LL):Zxb a =
 ((ZfM a).bind fun b=>
 if (!b) then
 (ZfX (List.length a:Int) a).bind fun c=>
 some (c.1)
 else
 some (false)):=by kernel_rfl
noncomputable def ZwL:Fn:=⟨13,[2],[],[],0,[],[],Tryz.f181,[.agg [.int .i64,.int .i64,.int .i64,.int .i64]],[.c (.bool)],[(119,Zrg.S),(121,ZrZ.S)]⟩
theorem ZyS:ZwL.S.Ok Tryz.prog 181:=ZwL.ok Tryz.func181 (by kernel_rfl) ⟨ZnF,⟨Zot,trivial⟩⟩
noncomputable def ZyN (a b c d:Int):Option (Bool):=ZwL.S.g [.i a,.i b,.i c,.i d]
theorem Zqu (a b c d:Int):ZyN a b c d =
 ((ZsO a).bind fun e=>
 if (!e) then
 some (true)
 else
 (ZsQ b c d).bind fun f=>
 some ((!f))):=by kernel_rfl
noncomputable def ZaR:Fn:=⟨19,[4],[(2,[(0,.c (.slice 4)),(1,.clo 181 []),(7,.c (.int .i64)),(8,.c (.int .i64))])],[],0,[],[],Tryz.f189,[.c (.slice 4),.clo 181 []],[.c (.int .i64)],[(181,ZwL.S)]⟩
theorem ZlP:ZaR.S.Ok Tryz.prog 189:=ZaR.ok Tryz.func189 (by kernel_rfl) ⟨ZyS,trivial⟩
noncomputable def Zfq (a:LL):Option (Int):=ZaR.S.g [.l a]
noncomputable def Km (k:Nat) (a:LL) (b c:Int):Option (Int):=ZaR.lp [0] 0 r0 k [.l a,.i b,.i c]
theorem Zar (k:Nat) (c:LL) (d a:Int):Km (k+1) c d a =
 (if (cop .lss a d) then
 Zl c a [.int .i64,.int .i64,.int .i64,.int .i64] fun (b:Int×Int×Int×Int)=>
 (ZyN b.1 b.2.1 b.2.2.1 b.2.2.2).bind fun e=>
 if e then
 some (a)
 else
 Km k c d (iop .add .i64 a 1)
 else
 some ((-1))):=by kernel_rfl
theorem Zin (a:LL):Zfq a =
 (Km Zw a (List.length a:Int) 0):=by kernel_rfl
noncomputable def Zb7:Fn:=⟨9,[4],[],[],0,[],[],Tryz.f180,[.c (.slice 4),.clo 181 []],[.c (.bool)],[(189,ZaR.S)]⟩
theorem Zne:Zb7.S.Ok Tryz.prog 180:=Zb7.ok Tryz.func180 (by kernel_rfl) ⟨ZlP,trivial⟩
noncomputable def ZeW (a:LL):Option (Bool):=Zb7.S.g [.l a]
theorem ZiJ (a:LL):ZeW a =
 ((Zfq a).bind fun b=>
 some ((cop .geq b 0))):=by kernel_rfl
noncomputable def ZwF:Fn:=⟨17,[5],[],[2],0,[],[],Tryz.f182,[.c (.int .i64),.c (.int .i64),.box [.slice 4]],[.c (.bool)],[]⟩
theorem ZxA:ZwF.S.Ok Tryz.prog 182:=ZwF.ok Tryz.func182 (by kernel_rfl) trivial
noncomputable def ZxD (a b:Int) (c:LL):Option (Bool×LL):=ZwF.S.g [.i a,.i b,.l c]
theorem Zp8 (b c:Int) (a:LL):ZxD b c a =
 (Zl a b [.int .i64,.int .i64,.int .i64,.int .i64] fun (d:Int×Int×Int×Int)=>
 Zl a c [.int .i64,.int .i64,.int .i64,.int .i64] fun (e:Int×Int×Int×Int)=>
 some ((cop .lss d.1 e.1),a)):=by kernel_rfl
noncomputable def ZaB:Fn:=⟨17,[4],[(2,[(0,.c (.int .i64)),(1,.clo 182 [17]),(5,.c (.int .i64)),(17,.gbox [.slice 4])])],[],1,[],[],Tryz.f132,[.c (.int .i64),.clo 182 [17],.dead,.dead,.dead,.dead,.dead,.dead,.dead,.dead,.dead,.dead,.dead,.dead,.dead,.dead,.dead,.gbox [.slice 4]],[.c (.bool)],[(182,ZwF.S)]⟩
theorem Zmq:ZaB.S.Ok Tryz.prog 132:=ZaB.ok Tryz.func132 (by kernel_rfl) ⟨ZxA,trivial⟩
noncomputable def ZeT (a:Int) (b:LL):Option (Bool×LL):=ZaB.S.g [.i a,.l b]
noncomputable def Kz (k:Nat) (a b:Int) (c:LL):Option (Bool×LL):=ZaB.lp [0] 0 r0 k [.i a,.i b,.l c]
theorem ZaK (k:Nat) (b a:Int) (c:LL):Kz (k+1) b a c =
 (if (cop .lss a b) then
 (ZxD (iop .sub .i64 a 1) a c).bind fun d=>
 if (!d.1) then
 some (false,d.2)
 else
 Kz k b (iop .add .i64 a 1) d.2
 else
 some (true,c)):=by kernel_rfl
theorem ZhV (a:Int) (b:LL):ZeT a b =
 (Kz Zw a 1 b):=by kernel_rfl
noncomputable def Zwy:Fn:=⟨12,[2],[],[],0,[],[],Tryz.f165,[.c (.slice 4)],[.c (.bool)],[(180,Zb7.S),(132,ZaB.S)]⟩
theorem Zxj:Zwy.S.Ok Tryz.prog 165:=Zwy.ok Tryz.func165 (by kernel_rfl) ⟨Zne,⟨Zmq,trivial⟩⟩
noncomputable def ZyT (a:LL):Option (Bool):=Zwy.S.g [.l a]
theorem Zso (a:LL):ZyT a =
 ((ZeW a).bind fun b=>
 if (!b) then
 (ZeT (List.length a:Int) a).bind fun c=>
 some (c.1)
 else
 some (false)):=by kernel_rfl
noncomputable def Zwr:Fn:=⟨17,[2],[],[],0,[],[],Tryz.f184,[.agg [.int .i64,.int .i64]],[.c (.bool)],[(122,Zvx.S)]⟩
theorem Zyc:Zwr.S.Ok Tryz.prog 184:=Zwr.ok Tryz.func184 (by kernel_rfl) ⟨ZvN,trivial⟩
noncomputable def Zx8 (a b:Int):Option (Bool):=Zwr.S.g [.i a,.i b]
theorem Zra (a b:Int):Zx8 a b =
 (if (cop .lss a 1) then
 some (true)
 else
 if (cop .gtr a 1073741824) then
 some (true)
 else
 (Zws b).bind fun c=>
 some ((!c))):=by kernel_rfl
noncomputable def ZaD:Fn:=⟨19,[4],[(2,[(0,.c (.slice 2)),(1,.clo 184 []),(7,.c (.int .i64)),(8,.c (.int .i64))])],[],0,[],[],Tryz.f190,[.c (.slice 2),.clo 184 []],[.c (.int .i64)],[(184,Zwr.S)]⟩
theorem Zm1:ZaD.S.Ok Tryz.prog 190:=ZaD.ok Tryz.func190 (by kernel_rfl) ⟨Zyc,trivial⟩
noncomputable def Zfx (a:LL):Option (Int):=ZaD.S.g [.l a]
noncomputable def Kn (k:Nat) (a:LL) (b c:Int):Option (Int):=ZaD.lp [0] 0 r0 k [.l a,.i b,.i c]
theorem ZaO (k:Nat) (b:LL) (c a:Int):Kn (k+1) b c a =
 (if (cop .lss a c) then
 Zl b a [.int .i64,.int .i64] fun (d:Int×Int)=>
 (Zx8 d.1 d.2).bind fun e=>
 if e then
 some (a)
 else
 Kn k b c (iop .add .i64 a 1)
 else
 some ((-1))):=by kernel_rfl
theorem Zh8 (a:LL):Zfx a =
 (Kn Zw a (List.length a:Int) 0):=by kernel_rfl
noncomputable def Zco:Fn:=⟨9,[4],[],[],0,[],[],Tryz.f183,[.c (.slice 2),.clo 184 []],[.c (.bool)],[(190,ZaD.S)]⟩
theorem ZmL:Zco.S.Ok Tryz.prog 183:=Zco.ok Tryz.func183 (by kernel_rfl) ⟨Zm1,trivial⟩
noncomputable def ZfQ (a:LL):Option (Bool):=Zco.S.g [.l a]
theorem ZhX (a:LL):ZfQ a =
 ((Zfx a).bind fun b=>
 some ((cop .geq b 0))):=by kernel_rfl
noncomputable def Zwb:Fn:=⟨17,[5],[],[2],0,[],[],Tryz.f185,[.c (.int .i64),.c (.int .i64),.box [.slice 2]],[.c (.bool)],[]⟩
theorem Zye:Zwb.S.Ok Tryz.prog 185:=Zwb.ok Tryz.func185 (by kernel_rfl) trivial
noncomputable def Zxq (a b:Int) (c:LL):Option (Bool×LL):=Zwb.S.g [.i a,.i b,.l c]
theorem Zqe (b c:Int) (a:LL):Zxq b c a =
 (Zl a b [.int .i64,.int .i64] fun (d:Int×Int)=>
 Zl a c [.int .i64,.int .i64] fun (e:Int×Int)=>
 some ((cop .lss d.1 e.1),a)):=by kernel_rfl
noncomputable def ZaM:Fn:=⟨17,[4],[(2,[(0,.c (.int .i64)),(1,.clo 185 [17]),(5,.c (.int .i64)),(17,.gbox [.slice 2])])],[],1,[],[],Tryz.f132,[.c (.int .i64),.clo 185 [17],.dead,.dead,.dead,.dead,.dead,.dead,.dead,.dead,.dead,.dead,.dead,.dead,.dead,.dead,.dead,.gbox [.slice 2]],[.c (.bool)],[(185,Zwb.S)]⟩
theorem Zlm:ZaM.S.Ok Tryz.prog 132:=ZaM.ok Tryz.func132 (by kernel_rfl) ⟨Zye,trivial⟩
noncomputable def ZfP (a:Int) (b:LL):Option (Bool×LL):=ZaM.S.g [.i a,.l b]
noncomputable def Kl (k:Nat) (a b:Int) (c:LL):Option (Bool×LL):=ZaM.lp [0] 0 r0 k [.i a,.i b,.l c]
theorem Zaq (k:Nat) (b a:Int) (c:LL):Kl (k+1) b a c =
 (if (cop .lss a b) then
 (Zxq (iop .sub .i64 a 1) a c).bind fun d=>
 if (!d.1) then
 some (false,d.2)
 else
 Kl k b (iop .add .i64 a 1) d.2
 else
 some (true,c)):=by kernel_rfl
theorem ZiO (a:Int) (b:LL):ZfP a b =
 (Kl Zw a 1 b):=by kernel_rfl
noncomputable def ZwZ:Fn:=⟨12,[2],[],[],0,[],[],Tryz.f166,[.c (.slice 2)],[.c (.bool)],[(183,Zco.S),(132,ZaM.S)]⟩
theorem Zw7:ZwZ.S.Ok Tryz.prog 166:=ZwZ.ok Tryz.func166 (by kernel_rfl) ⟨ZmL,⟨Zlm,trivial⟩⟩
noncomputable def ZxW (a:LL):Option (Bool):=ZwZ.S.g [.l a]
theorem Zrm (a:LL):ZxW a =
 ((ZfQ a).bind fun b=>
 if (!b) then
 (ZfP (List.length a:Int) a).bind fun c=>
 some (c.1)
 else
 some (false)):=by kernel_rfl
noncomputable def ZwI:Fn:=⟨19,[2],[],[],0,[],[],Tryz.f187,[.agg hs9],[.c (.bool)],[(77,F77.S),(126,Zuq.S),(125,Zol.S)]⟩
theorem Zyo:ZwI.S.Ok Tryz.prog 187:=ZwI.ok Tryz.func187 (by kernel_rfl) ⟨Zqg,⟨Zun,⟨Zmt,trivial⟩⟩⟩
noncomputable def ZyF (a c d e f:Int) (h:LL) (j k m n o p:Int) (q:Bool):Option (Bool):=ZwI.S.g [.i a,.i c,.i d,.i e,.i f,.l h,.i j,.i k,.i m,.i n,.i o,.i p,.b q]
theorem ZrT (a b c d e:Int) (f:LL) (g h i j k l:Int) (m:Bool):ZyF a b c d e f g h i j k l m =
 ((g77 a).bind fun n=>
 if (!n) then
 some (true)
 else
 (ZwW b).bind fun o=>
 if (!o) then
 some (true)
 else
 (ZpI c d e f g h i j k l m).bind fun p=>
 some ((!p))):=by kernel_rfl
noncomputable def Zas:Fn:=⟨19,[4],[(2,[(0,.c (.slice 13)),(1,.clo 187 []),(7,.c (.int .i64)),(8,.c (.int .i64))])],[],0,[],[],Tryz.f191,[.c (.slice 13),.clo 187 []],[.c (.int .i64)],[(187,ZwI.S)]⟩
theorem Znh:Zas.S.Ok Tryz.prog 191:=Zas.ok Tryz.func191 (by kernel_rfl) ⟨Zyo,trivial⟩
noncomputable def Zfl (a:LL):Option (Int):=Zas.S.g [.l a]
noncomputable def Ky (k:Nat) (a:LL) (b c:Int):Option (Int):=Zas.lp [0] 0 r0 k [.l a,.i b,.i c]
theorem Za5 (k:Nat) (c:LL) (d b:Int):Ky (k+1) c d b =
 (if (cop .lss b d) then
 Zl c b hs9 fun (a:Qt14)=>
 (ZyF a.1 a.2.1 a.2.2.1 a.2.2.2.1 a.2.2.2.2.1 a.2.2.2.2.2.1 a.2.2.2.2.2.2.1 a.2.2.2.2.2.2.2.1 a.2.2.2.2.2.2.2.2.1 a.2.2.2.2.2.2.2.2.2.1 a.2.2.2.2.2.2.2.2.2.2.1 a.2.2.2.2.2.2.2.2.2.2.2.1 (d4 (d8 a))).bind fun e=>
 if e then
 some (b)
 else
 Ky k c d (iop .add .i64 b 1)
 else
 some ((-1))):=by kernel_rfl
theorem ZiF (a:LL):Zfl a =
 (Ky Zw a (List.length a:Int) 0):=by kernel_rfl
noncomputable def Zb9:Fn:=⟨9,[4],[],[],0,[],[],Tryz.f186,[.c (.slice 13),.clo 187 []],[.c (.bool)],[(191,Zas.S)]⟩
theorem ZlR:Zb9.S.Ok Tryz.prog 186:=Zb9.ok Tryz.func186 (by kernel_rfl) ⟨Znh,trivial⟩
noncomputable def ZfE (a:LL):Option (Bool):=Zb9.S.g [.l a]
theorem ZiC (a:LL):ZfE a =
 ((Zfl a).bind fun b=>
 some ((cop .geq b 0))):=by kernel_rfl
noncomputable def Zwq:Fn:=⟨19,[5],[],[2],0,[],[],Tryz.f188,[.c (.int .i64),.c (.int .i64),.box [.slice 13]],[.c (.bool)],[(39,F39.S)]⟩
theorem Zy7:Zwq.S.Ok Tryz.prog 188:=Zwq.ok Tryz.func188 (by kernel_rfl) ⟨Zxu,trivial⟩
noncomputable def ZxZ (a b:Int) (c:LL):Option (Bool×LL):=Zwq.S.g [.i a,.i b,.l c]
theorem ZrN (d e:Int) (a:LL):ZxZ d e a =
 (Zl a d hs9 fun (b:Qt14)=>
 Zl a e hs9 fun (c:Qt14)=>
 (g39 b.2.2.1 b.2.2.2.1 b.2.2.2.2.1 c.2.2.1 c.2.2.2.1 c.2.2.2.2.1).bind fun f=>
 some (f,a)):=by kernel_rfl
noncomputable def Za0:Fn:=⟨17,[4],[(2,[(0,.c (.int .i64)),(1,.clo 188 [17]),(5,.c (.int .i64)),(17,.gbox [.slice 13])])],[],1,[],[],Tryz.f132,[.c (.int .i64),.clo 188 [17],.dead,.dead,.dead,.dead,.dead,.dead,.dead,.dead,.dead,.dead,.dead,.dead,.dead,.dead,.dead,.gbox [.slice 13]],[.c (.bool)],[(188,Zwq.S)]⟩
theorem ZmD:Za0.S.Ok Tryz.prog 132:=Za0.ok Tryz.func132 (by kernel_rfl) ⟨Zy7,trivial⟩
noncomputable def Ze9 (a:Int) (b:LL):Option (Bool×LL):=Za0.S.g [.i a,.l b]
noncomputable def Kv (k:Nat) (a b:Int) (c:LL):Option (Bool×LL):=Za0.lp [0] 0 r0 k [.i a,.i b,.l c]
theorem Zak (k:Nat) (b a:Int) (c:LL):Kv (k+1) b a c =
 (if (cop .lss a b) then
 (ZxZ (iop .sub .i64 a 1) a c).bind fun d=>
 if (!d.1) then
 some (false,d.2)
 else
 Kv k b (iop .add .i64 a 1) d.2
 else
 some (true,c)):=by kernel_rfl
theorem Ziq (a:Int) (b:LL):Ze9 a b =
 (Kv Zw a 1 b):=by kernel_rfl
noncomputable def ZwA:Fn:=⟨12,[2],[],[],0,[],[],Tryz.f167,[.c (.slice 13)],[.c (.bool)],[(186,Zb9.S),(132,Za0.S)]⟩
theorem ZzH:ZwA.S.Ok Tryz.prog 167:=ZwA.ok Tryz.func167 (by kernel_rfl) ⟨ZlR,⟨ZmD,trivial⟩⟩
noncomputable def ZyI (a:LL):Option (Bool):=ZwA.S.g [.l a]
theorem ZrF (a:LL):ZyI a =
 ((ZfE a).bind fun b=>
 if (!b) then
 (Ze9 (List.length a:Int) a).bind fun c=>
 some (c.1)
 else
 some (false)):=by kernel_rfl
noncomputable def Zwh:Fn:=⟨6,[2],[],[],0,[],[],Tryz.f168,[.agg [.int .i64,.int .i64,.int .i64]],[.c (.bool)],[(121,ZrZ.S)]⟩
theorem Zze:Zwh.S.Ok Tryz.prog 168:=Zwh.ok Tryz.func168 (by kernel_rfl) ⟨Zot,trivial⟩
noncomputable def ZyP (a b c:Int):Option (Bool):=Zwh.S.g [.i a,.i b,.i c]
theorem Zr6 (a b c:Int):ZyP a b c =
 ((ZsQ a b c).bind fun d=>
 some ((!d))):=by kernel_rfl
noncomputable def ZaE:Fn:=⟨19,[4],[(2,[(0,.c (.slice 3)),(1,.clo 168 []),(7,.c (.int .i64)),(8,.c (.int .i64))])],[],0,[],[],Tryz.f160,[.c (.slice 3),.clo 168 []],[.c (.int .i64)],[(168,Zwh.S)]⟩
theorem Zmc:ZaE.S.Ok Tryz.prog 160:=ZaE.ok Tryz.func160 (by kernel_rfl) ⟨Zze,trivial⟩
noncomputable def ZfF (a:LL):Option (Int):=ZaE.S.g [.l a]
noncomputable def Kx (k:Nat) (a:LL) (b c:Int):Option (Int):=ZaE.lp [0] 0 r0 k [.l a,.i b,.i c]
theorem Zbf (k:Nat) (b:LL) (c a:Int):Kx (k+1) b c a =
 (if (cop .lss a c) then
 Zl b a [.int .i64,.int .i64,.int .i64] fun (d:Int×Int×Int)=>
 (ZyP d.1 d.2.1 d.2.2).bind fun e=>
 if e then
 some (a)
 else
 Kx k b c (iop .add .i64 a 1)
 else
 some ((-1))):=by kernel_rfl
theorem Zip (a:LL):ZfF a =
 (Kx Zw a (List.length a:Int) 0):=by kernel_rfl
noncomputable def Zca:Fn:=⟨9,[4],[],[],0,[],[],Tryz.f127,[.c (.slice 3),.clo 168 []],[.c (.bool)],[(160,ZaE.S)]⟩
theorem ZlY:Zca.S.Ok Tryz.prog 127:=Zca.ok Tryz.func127 (by kernel_rfl) ⟨Zmc,trivial⟩
noncomputable def ZeZ (a:LL):Option (Bool):=Zca.S.g [.l a]
theorem ZiQ (a:LL):ZeZ a =
 ((ZfF a).bind fun b=>
 some ((cop .geq b 0))):=by kernel_rfl
noncomputable def ZuO:Fn:=⟨32,[2],[],[],0,[],[],Tryz.f136,[.agg hs19],[.c (.bool)],[(163,ZvU.S),(164,Zwl.S),(165,Zwy.S),(166,ZwZ.S),(167,ZwA.S),(127,Zca.S)]⟩
theorem ZtT:ZuO.S.Ok Tryz.prog 136:=ZuO.ok Tryz.func136 (by kernel_rfl) ⟨ZxJ,⟨Zzn,⟨Zxj,⟨Zw7,⟨ZzH,⟨ZlY,trivial⟩⟩⟩⟩⟩⟩
noncomputable def ZvR (a b c d e f:LL):Option (Bool):=ZuO.S.g [.l a,.l b,.l c,.l d,.l e,.l f]
theorem Zsg (a b c d e f:LL):ZvR a b c d e f =
 ((ZyO a).bind fun g=>
 if g then
 (Zxb b).bind fun h=>
 if h then
 (ZyT c).bind fun i=>
 if i then
 (ZxW d).bind fun j=>
 if j then
 (ZyI e).bind fun k=>
 if k then
 (ZeZ f).bind fun l=>
 some ((!l))
 else
 some (false)
 else
 some (false)
 else
 some (false)
 else
 some (false)
 else
 some (false)):=by kernel_rfl
noncomputable def Zw6:Fn:=⟨26,[2],[],[],0,[],[],Tryz.f134,[.agg hs4],[.c (.bool)],[(77,F77.S),(135,ZsE.S),(136,ZuO.S)]⟩
theorem Zx3:Zw6.S.Ok Tryz.prog 134:=Zw6.ok Tryz.func134 (by kernel_rfl) ⟨Zqg,⟨Zux,⟨ZtT,trivial⟩⟩⟩
noncomputable def Zyx (a c:Int) (d e f h j k m n:LL) (o:Bool) (p:Int) (q r s t u v w x:LL):Option (Bool):=Zw6.S.g [.i a,.i c,.l d,.l e,.l f,.l h,.l j,.l k,.l m,.l n,.b o,.i p,.l q,.l r,.l s,.l t,.l u,.l v,.l w,.l x]
theorem Zrb (a b:Int) (c d e f g h i j:LL) (t:Bool) (k:Int) (l m n o p q r s:LL):Zyx a b c d e f g h i j t k l m n o p q r s =
 ((g77 a).bind fun u=>
 if u then
 (Zu2 b c d).bind fun v=>
 if v then
 (ZvR e f g h i j).bind fun w=>
 if w then
 (Zu2 k l m).bind fun x=>
 if x then
 (ZvR n o p q r s).bind fun y=>
 some (y)
 else
 some (false)
 else
 some (false)
 else
 some (false)
 else
 some (false)):=by kernel_rfl
noncomputable def Zw3:Fn:=⟨6,[2],[],[],0,[],[],Tryz.f124,[.agg hs10],[.c (.bool)],[(125,Zol.S)]⟩
theorem Zzk:Zw3.S.Ok Tryz.prog 124:=Zw3.ok Tryz.func124 (by kernel_rfl) ⟨Zmt,trivial⟩
noncomputable def Zzh (a c d:Int) (e:LL) (f h j k m n:Int) (o:Bool):Option (Bool):=Zw3.S.g [.i a,.i c,.i d,.l e,.i f,.i h,.i j,.i k,.i m,.i n,.b o]
theorem Zqz (a b c:Int) (d:LL) (e f g h i j:Int) (k:Bool):Zzh a b c d e f g h i j k =
 ((ZpI a b c d e f g h i j k).bind fun l=>
 some ((!l))):=by kernel_rfl
noncomputable def Zbb:Fn:=⟨19,[4],[(2,[(0,.c (.slice 11)),(1,.clo 124 []),(7,.c (.int .i64)),(8,.c (.int .i64))])],[],0,[],[],Tryz.f157,[.c (.slice 11),.clo 124 []],[.c (.int .i64)],[(124,Zw3.S)]⟩
theorem Znl:Zbb.S.Ok Tryz.prog 157:=Zbb.ok Tryz.func157 (by kernel_rfl) ⟨Zzk,trivial⟩
noncomputable def ZfR (a:LL):Option (Int):=Zbb.S.g [.l a]
noncomputable def Ks (k:Nat) (a:LL) (b c:Int):Option (Int):=Zbb.lp [0] 0 r0 k [.l a,.i b,.i c]
theorem Zam (k:Nat) (c:LL) (d b:Int):Ks (k+1) c d b =
 (if (cop .lss b d) then
 Zl c b hs10 fun (a:Qt20)=>
 (Zzh a.1 a.2.1 a.2.2.1 a.2.2.2.1 a.2.2.2.2.1 a.2.2.2.2.2.1 a.2.2.2.2.2.2.1 a.2.2.2.2.2.2.2.1 a.2.2.2.2.2.2.2.2.1 a.2.2.2.2.2.2.2.2.2.1 a.2.2.2.2.2.2.2.2.2.2).bind fun e=>
 if e then
 some (b)
 else
 Ks k c d (iop .add .i64 b 1)
 else
 some ((-1))):=by kernel_rfl
theorem ZhR (a:LL):ZfR a =
 (Ks Zw a (List.length a:Int) 0):=by kernel_rfl
noncomputable def Zcn:Fn:=⟨9,[4],[],[],0,[],[],Tryz.f123,[.c (.slice 11),.clo 124 []],[.c (.bool)],[(157,Zbb.S)]⟩
theorem ZlX:Zcn.S.Ok Tryz.prog 123:=Zcn.ok Tryz.func123 (by kernel_rfl) ⟨Znl,trivial⟩
noncomputable def Wi (a:LL):Option (Bool):=Zcn.S.g [.l a]
theorem Zh5 (a:LL):Wi a =
 ((ZfR a).bind fun b=>
 some ((cop .geq b 0))):=by kernel_rfl
noncomputable def Zwn:Fn:=⟨6,[2],[],[],0,[],[],Tryz.f128,[.agg [.int .i64,.int .i64,.int .i64]],[.c (.bool)],[(129,ZqB.S)]⟩
theorem Zxe:Zwn.S.Ok Tryz.prog 128:=Zwn.ok Tryz.func128 (by kernel_rfl) ⟨ZoL,trivial⟩
noncomputable def Zw9 (a b c:Int):Option (Bool):=Zwn.S.g [.i a,.i b,.i c]
theorem ZrH (a b c:Int):Zw9 a b c =
 ((Zr4 a b c).bind fun d=>
 some ((!d))):=by kernel_rfl
noncomputable def ZaT:Fn:=⟨19,[4],[(2,[(0,.c (.slice 3)),(1,.clo 128 []),(7,.c (.int .i64)),(8,.c (.int .i64))])],[],0,[],[],Tryz.f160,[.c (.slice 3),.clo 128 []],[.c (.int .i64)],[(128,Zwn.S)]⟩
theorem ZmC:ZaT.S.Ok Tryz.prog 160:=ZaT.ok Tryz.func160 (by kernel_rfl) ⟨Zxe,trivial⟩
noncomputable def Zfn (a:LL):Option (Int):=ZaT.S.g [.l a]
noncomputable def Kr (k:Nat) (a:LL) (b c:Int):Option (Int):=ZaT.lp [0] 0 r0 k [.l a,.i b,.i c]
theorem Zap (k:Nat) (b:LL) (c a:Int):Kr (k+1) b c a =
 (if (cop .lss a c) then
 Zl b a [.int .i64,.int .i64,.int .i64] fun (d:Int×Int×Int)=>
 (Zw9 d.1 d.2.1 d.2.2).bind fun e=>
 if e then
 some (a)
 else
 Kr k b c (iop .add .i64 a 1)
 else
 some ((-1))):=by kernel_rfl
theorem ZiR (a:LL):Zfn a =
 (Kr Zw a (List.length a:Int) 0):=by kernel_rfl
noncomputable def Zcl:Fn:=⟨9,[4],[],[],0,[],[],Tryz.f127,[.c (.slice 3),.clo 128 []],[.c (.bool)],[(160,ZaT.S)]⟩
theorem ZlS:Zcl.S.Ok Tryz.prog 127:=Zcl.ok Tryz.func127 (by kernel_rfl) ⟨ZmC,trivial⟩
noncomputable def Zb6 (a:LL):Option (Bool):=Zcl.S.g [.l a]
theorem ZhM (a:LL):Zb6 a =
 ((Zfn a).bind fun b=>
 some ((cop .geq b 0))):=by kernel_rfl
noncomputable def Zwx:Fn:=⟨6,[2],[],[],0,[],[],Tryz.f131,[.c (.int .i64)],[.c (.bool)],[(77,F77.S)]⟩
theorem Zys:Zwx.S.Ok Tryz.prog 131:=Zwx.ok Tryz.func131 (by kernel_rfl) ⟨Zqg,trivial⟩
noncomputable def ZyY (a:Int):Option (Bool):=Zwx.S.g [.i a]
theorem Zqc (a:Int):ZyY a =
 ((g77 a).bind fun b=>
 some ((!b))):=by kernel_rfl
noncomputable def Zbg:Fn:=⟨19,[4],[(2,[(0,.c (.slice 1)),(1,.clo 131 []),(7,.c (.int .i64)),(8,.c (.int .i64))])],[],0,[],[],Tryz.f161,[.c (.slice 1),.clo 131 []],[.c (.int .i64)],[(131,Zwx.S)]⟩
theorem ZlW:Zbg.S.Ok Tryz.prog 161:=Zbg.ok Tryz.func161 (by kernel_rfl) ⟨Zys,trivial⟩
noncomputable def Zfy (a:LL):Option (Int):=Zbg.S.g [.l a]
noncomputable def Kw (k:Nat) (a:LL) (b c:Int):Option (Int):=Zbg.lp [0] 0 r0 k [.l a,.i b,.i c]
theorem Za2 (k:Nat) (b:LL) (c a:Int):Kw (k+1) b c a =
 (if (cop .lss a c) then
 Zl b a [.int .i64] fun (d:Int)=>
 (ZyY d).bind fun e=>
 if e then
 some (a)
 else
 Kw k b c (iop .add .i64 a 1)
 else
 some ((-1))):=by kernel_rfl
theorem Zis (a:LL):Zfy a =
 (Kw Zw a (List.length a:Int) 0):=by kernel_rfl
noncomputable def Zcq:Fn:=⟨9,[4],[],[],0,[],[],Tryz.f130,[.c (.slice 1),.clo 131 []],[.c (.bool)],[(161,Zbg.S)]⟩
theorem ZlE:Zcq.S.Ok Tryz.prog 130:=Zcq.ok Tryz.func130 (by kernel_rfl) ⟨ZlW,trivial⟩
noncomputable def Zb4 (a:LL):Option (Bool):=Zcq.S.g [.l a]
theorem Zh0 (a:LL):Zb4 a =
 ((Zfy a).bind fun b=>
 some ((cop .geq b 0))):=by kernel_rfl
noncomputable def Zwo:Fn:=⟨17,[5],[],[2],0,[],[],Tryz.f133,[.c (.int .i64),.c (.int .i64),.box hs0],[.c (.bool)],[]⟩
theorem Zzu:Zwo.S.Ok Tryz.prog 133:=Zwo.ok Tryz.func133 (by kernel_rfl) trivial
noncomputable def Zyl (a c d e f h j k m n o p q:Int) (r:Bool) (s t u v w x y z A C D E G H J K L M N O:Int) (P:LL) (Q R T U V W:Int) (X:Bool) (Y Z aa ab:LL) (ac ad:Int) (ae af ag ah ai aj ak al:LL) (am an:Int) (ao ap aq ar aZ au av aw:LL) (ax:Bool) (ay:Int) (az a0 a1 a2 a3 a4 a5 a6:LL):Option (Qt1):=Zwo.S.g [.i a,.i c,.i d,.i e,.i f,.i h,.i j,.i k,.i m,.i n,.i o,.i p,.i q,.b r,.i s,.i t,.i u,.i v,.i w,.i x,.i y,.i z,.i A,.i C,.i D,.i E,.i G,.i H,.i J,.i K,.i L,.i M,.i N,.i O,.l P,.i Q,.i R,.i T,.i U,.i V,.i W,.b X,.l Y,.l Z,.l aa,.l ab,.i ac,.i ad,.l ae,.l af,.l ag,.l ah,.l ai,.l aj,.l ak,.l al,.i am,.i an,.l ao,.l ap,.l aq,.l ar,.l aZ,.l au,.l av,.l aw,.b ax,.i ay,.l az,.l a0,.l a1,.l a2,.l a3,.l a4,.l a5,.l a6]
theorem Zqa (b c d e f g h i j k l m n:Int) (o:Bool) (p q r s t u v w x y z A C D E G H J K L:Int) (M:LL) (N O P Q R T:Int) (U:Bool) (V W a X:LL) (Y Z:Int) (aa ab ac ad ae af ag ah:LL) (ai aj:Int) (ak al am an ao ap aq ar:LL) (aZ:Bool) (au:Int) (av aw ax ay az a0 a1 a2:LL):Zyl b c d e f g h i j k l m n o p q r s t u v w x y z A C D E G H J K L M N O P Q R T U V W a X Y Z aa ab ac ad ae af ag ah ai aj ak al am an ao ap aq ar aZ au av aw ax ay az a0 a1 a2 =
 (Zl a b [.int .i64] fun (a3:Int)=>
 Zl a c [.int .i64] fun (a4:Int)=>
 some ((cop .lss a3 a4),d,e,f,g,h,i,j,k,l,m,n,o,p,q,r,s,t,u,v,w,x,y,z,A,C,D,E,G,H,J,K,L,M,N,O,P,Q,R,T,U,V,W,a,X,Y,Z,aa,ab,ac,ad,ae,af,ag,ah,ai,aj,ak,al,am,an,ao,ap,aq,ar,aZ,au,av,aw,ax,ay,az,a0,a1,a2)):=by kernel_rfl
noncomputable def Zbc:Fn:=⟨17,[4],[(2,[(0,.c (.int .i64)),(1,.clo 133 [17]),(5,.c (.int .i64)),(17,.gbox hs0)])],[],1,[],[],Tryz.f132,[.c (.int .i64),.clo 133 [17],.dead,.dead,.dead,.dead,.dead,.dead,.dead,.dead,.dead,.dead,.dead,.dead,.dead,.dead,.dead,.gbox hs0],[.c (.bool)],[(133,Zwo.S)]⟩
theorem Zln:Zbc.S.Ok Tryz.prog 132:=Zbc.ok Tryz.func132 (by kernel_rfl) ⟨Zzu,trivial⟩
noncomputable def Zce (a c d e f h j k m n o p:Int) (q:Bool) (r s t u v w x y z A C D E G H J K L M N:Int) (O:LL) (P Q R T U V:Int) (W:Bool) (X Y Z aa:LL) (ab ac:Int) (ad ae af ag ah ai aj ak:LL) (al am:Int) (an ao ap aq ar aZ au av:LL) (aw:Bool) (ax:Int) (ay az a0 a1 a2 a3 a4 a5:LL):Option (Qt1):=Zbc.S.g [.i a,.i c,.i d,.i e,.i f,.i h,.i j,.i k,.i m,.i n,.i o,.i p,.b q,.i r,.i s,.i t,.i u,.i v,.i w,.i x,.i y,.i z,.i A,.i C,.i D,.i E,.i G,.i H,.i J,.i K,.i L,.i M,.i N,.l O,.i P,.i Q,.i R,.i T,.i U,.i V,.b W,.l X,.l Y,.l Z,.l aa,.i ab,.i ac,.l ad,.l ae,.l af,.l ag,.l ah,.l ai,.l aj,.l ak,.i al,.i am,.l an,.l ao,.l ap,.l aq,.l ar,.l aZ,.l au,.l av,.b aw,.i ax,.l ay,.l az,.l a0,.l a1,.l a2,.l a3,.l a4,.l a5]
noncomputable def WA (k:Nat) (a c d e f g h j m n o p q:Int) (r:Bool) (s t u v w x y z A C D E G H J K L M N O:Int) (P:LL) (Q R T U V W:Int) (X:Bool) (Y Z aa ab:LL) (ac ad:Int) (ae af ag ah ai aj ak al:LL) (am an:Int) (ao ap aq ar aZ au av aw:LL) (ax:Bool) (ay:Int) (az a0 a1 a2 a3 a4 a5 a6:LL):Option (Qt1):=Zbc.lp [0] 0 r0 k [.i a,.i c,.i d,.i e,.i f,.i g,.i h,.i j,.i m,.i n,.i o,.i p,.i q,.b r,.i s,.i t,.i u,.i v,.i w,.i x,.i y,.i z,.i A,.i C,.i D,.i E,.i G,.i H,.i J,.i K,.i L,.i M,.i N,.i O,.l P,.i Q,.i R,.i T,.i U,.i V,.i W,.b X,.l Y,.l Z,.l aa,.l ab,.i ac,.i ad,.l ae,.l af,.l ag,.l ah,.l ai,.l aj,.l ak,.l al,.i am,.i an,.l ao,.l ap,.l aq,.l ar,.l aZ,.l au,.l av,.l aw,.b ax,.i ay,.l az,.l a0,.l a1,.l a2,.l a3,.l a4,.l a5,.l a6]
theorem Zat (k:Nat) (c b d e f g h i j l m n o:Int) (p:Bool) (q r s t u v w x y z A C D E G H J K L M:Int) (N:LL) (O P Q R T U:Int) (V:Bool) (W X Y Z:LL) (aa ab:Int) (ac ad ae af ag ah ai aj:LL) (ak al:Int) (am an ao ap aq ar aZ au:LL) (av:Bool) (aw:Int) (ax ay az a0 a1 a2 a3 a4:LL):WA (k+1) c b d e f g h i j l m n o p q r s t u v w x y z A C D E G H J K L M N O P Q R T U V W X Y Z aa ab ac ad ae af ag ah ai aj ak al am an ao ap aq ar aZ au av aw ax ay az a0 a1 a2 a3 a4 =
 (if (cop .lss b c) then
 (Zyl (iop .sub .i64 b 1) b d e f g h i j l m n o p q r s t u v w x y z A C D E G H J K L M N O P Q R T U V W X Y Z aa ab ac ad ae af ag ah ai aj ak al am an ao ap aq ar aZ au av aw ax ay az a0 a1 a2 a3 a4).bind fun a=>
 if (!a.1) then
 some (false,a.2.1,a.2.2.1,a.2.2.2.1,a.2.2.2.2.1,a.2.2.2.2.2.1,a.2.2.2.2.2.2.1,a.2.2.2.2.2.2.2.1,a.2.2.2.2.2.2.2.2.1,a.2.2.2.2.2.2.2.2.2.1,a.2.2.2.2.2.2.2.2.2.2.1,a.2.2.2.2.2.2.2.2.2.2.2.1,(d4 (d8 a)).1,(d4 (d8 a)).2.1,(d2 (d4 (d8 a))).1,(d2 (d4 (d8 a))).2.1,(d16 a).1,(d16 a).2.1,(d2 (d16 a)).1,(d2 (d16 a)).2.1,(d4 (d16 a)).1,(d4 (d16 a)).2.1,(d2 (d4 (d16 a))).1,(d2 (d4 (d16 a))).2.1,(d8 (d16 a)).1,(d8 (d16 a)).2.1,(d2 (d8 (d16 a))).1,(d2 (d8 (d16 a))).2.1,(d4 (d8 (d16 a))).1,(d4 (d8 (d16 a))).2.1,(d2 (d4 (d8 (d16 a)))).1,(d2 (d4 (d8 (d16 a)))).2.1,(d16 (d16 a)).1,(d16 (d16 a)).2.1,(d2 (d16 (d16 a))).1,(d2 (d16 (d16 a))).2.1,(d4 (d16 (d16 a))).1,(d4 (d16 (d16 a))).2.1,(d2 (d4 (d16 (d16 a)))).1,(d2 (d4 (d16 (d16 a)))).2.1,(d8 (d16 (d16 a))).1,(d8 (d16 (d16 a))).2.1,(d2 (d8 (d16 (d16 a)))).1,(d2 (d8 (d16 (d16 a)))).2.1,(d4 (d8 (d16 (d16 a)))).1,(d4 (d8 (d16 (d16 a)))).2.1,(d2 (d4 (d8 (d16 (d16 a))))).1,(d2 (d4 (d8 (d16 (d16 a))))).2.1,(d16 (d16 (d16 a))).1,(d16 (d16 (d16 a))).2.1,(d2 (d16 (d16 (d16 a)))).1,(d2 (d16 (d16 (d16 a)))).2.1,(d4 (d16 (d16 (d16 a)))).1,(d4 (d16 (d16 (d16 a)))).2.1,(d2 (d4 (d16 (d16 (d16 a))))).1,(d2 (d4 (d16 (d16 (d16 a))))).2.1,(d8 (d16 (d16 (d16 a)))).1,(d8 (d16 (d16 (d16 a)))).2.1,(d2 (d8 (d16 (d16 (d16 a))))).1,(d2 (d8 (d16 (d16 (d16 a))))).2.1,(d4 (d8 (d16 (d16 (d16 a))))).1,(d4 (d8 (d16 (d16 (d16 a))))).2.1,(d2 (d4 (d8 (d16 (d16 (d16 a)))))).1,(d2 (d4 (d8 (d16 (d16 (d16 a)))))).2.1,(d16 (d16 (d16 (d16 a)))).1,(d16 (d16 (d16 (d16 a)))).2.1,(d2 (d16 (d16 (d16 (d16 a))))).1,(d2 (d16 (d16 (d16 (d16 a))))).2.1,(d4 (d16 (d16 (d16 (d16 a))))).1,(d4 (d16 (d16 (d16 (d16 a))))).2.1,(d2 (d4 (d16 (d16 (d16 (d16 a)))))).1,(d2 (d4 (d16 (d16 (d16 (d16 a)))))).2.1,(d8 (d16 (d16 (d16 (d16 a))))).1,(d8 (d16 (d16 (d16 (d16 a))))).2.1,(d2 (d8 (d16 (d16 (d16 (d16 a)))))))
 else
 WA k c (iop .add .i64 b 1) a.2.1 a.2.2.1 a.2.2.2.1 a.2.2.2.2.1 a.2.2.2.2.2.1 a.2.2.2.2.2.2.1 a.2.2.2.2.2.2.2.1 a.2.2.2.2.2.2.2.2.1 a.2.2.2.2.2.2.2.2.2.1 a.2.2.2.2.2.2.2.2.2.2.1 a.2.2.2.2.2.2.2.2.2.2.2.1 (d4 (d8 a)).1 (d4 (d8 a)).2.1 (d2 (d4 (d8 a))).1 (d2 (d4 (d8 a))).2.1 (d16 a).1 (d16 a).2.1 (d2 (d16 a)).1 (d2 (d16 a)).2.1 (d4 (d16 a)).1 (d4 (d16 a)).2.1 (d2 (d4 (d16 a))).1 (d2 (d4 (d16 a))).2.1 (d8 (d16 a)).1 (d8 (d16 a)).2.1 (d2 (d8 (d16 a))).1 (d2 (d8 (d16 a))).2.1 (d4 (d8 (d16 a))).1 (d4 (d8 (d16 a))).2.1 (d2 (d4 (d8 (d16 a)))).1 (d2 (d4 (d8 (d16 a)))).2.1 (d16 (d16 a)).1 (d16 (d16 a)).2.1 (d2 (d16 (d16 a))).1 (d2 (d16 (d16 a))).2.1 (d4 (d16 (d16 a))).1 (d4 (d16 (d16 a))).2.1 (d2 (d4 (d16 (d16 a)))).1 (d2 (d4 (d16 (d16 a)))).2.1 (d8 (d16 (d16 a))).1 (d8 (d16 (d16 a))).2.1 (d2 (d8 (d16 (d16 a)))).1 (d2 (d8 (d16 (d16 a)))).2.1 (d4 (d8 (d16 (d16 a)))).1 (d4 (d8 (d16 (d16 a)))).2.1 (d2 (d4 (d8 (d16 (d16 a))))).1 (d2 (d4 (d8 (d16 (d16 a))))).2.1 (d16 (d16 (d16 a))).1 (d16 (d16 (d16 a))).2.1 (d2 (d16 (d16 (d16 a)))).1 (d2 (d16 (d16 (d16 a)))).2.1 (d4 (d16 (d16 (d16 a)))).1 (d4 (d16 (d16 (d16 a)))).2.1 (d2 (d4 (d16 (d16 (d16 a))))).1 (d2 (d4 (d16 (d16 (d16 a))))).2.1 (d8 (d16 (d16 (d16 a)))).1 (d8 (d16 (d16 (d16 a)))).2.1 (d2 (d8 (d16 (d16 (d16 a))))).1 (d2 (d8 (d16 (d16 (d16 a))))).2.1 (d4 (d8 (d16 (d16 (d16 a))))).1 (d4 (d8 (d16 (d16 (d16 a))))).2.1 (d2 (d4 (d8 (d16 (d16 (d16 a)))))).1 (d2 (d4 (d8 (d16 (d16 (d16 a)))))).2.1 (d16 (d16 (d16 (d16 a)))).1 (d16 (d16 (d16 (d16 a)))).2.1 (d2 (d16 (d16 (d16 (d16 a))))).1 (d2 (d16 (d16 (d16 (d16 a))))).2.1 (d4 (d16 (d16 (d16 (d16 a))))).1 (d4 (d16 (d16 (d16 (d16 a))))).2.1 (d2 (d4 (d16 (d16 (d16 (d16 a)))))).1 (d2 (d4 (d16 (d16 (d16 (d16 a)))))).2.1 (d8 (d16 (d16 (d16 (d16 a))))).1 (d8 (d16 (d16 (d16 (d16 a))))).2.1 (d2 (d8 (d16 (d16 (d16 (d16 a))))))
 else
 some (true,d,e,f,g,h,i,j,l,m,n,o,p,q,r,s,t,u,v,w,x,y,z,A,C,D,E,G,H,J,K,L,M,N,O,P,Q,R,T,U,V,W,X,Y,Z,aa,ab,ac,ad,ae,af,ag,ah,ai,aj,ak,al,am,an,ao,ap,aq,ar,aZ,au,av,aw,ax,ay,az,a0,a1,a2,a3,a4)):=by kernel_rfl
theorem ZhZ (a b c d e f g h i j k l:Int) (m:Bool) (n o p q r s t u v w x y z A C D E G H J:Int) (K:LL) (L M N O P Q:Int) (R:Bool) (T U V W:LL) (X Y:Int) (Z aa ab ac ad ae af ag:LL) (ah ai:Int) (aj ak al am an ao ap aq:LL) (ar:Bool) (aZ:Int) (au av aw ax ay az a0 a1:LL):Zce a b c d e f g h i j k l m n o p q r s t u v w x y z A C D E G H J K L M N O P Q R T U V W X Y Z aa ab ac ad ae af ag ah ai aj ak al am an ao ap aq ar aZ au av aw ax ay az a0 a1 =
 (WA Zw a 1 b c d e f g h i j k l m n o p q r s t u v w x y z A C D E G H J K L M N O P Q R T U V W X Y Z aa ab ac ad ae af ag ah ai aj ak al am an ao ap aq ar aZ au av aw ax ay az a0 a1):=by kernel_rfl
noncomputable def Zwi:Fn:=⟨13,[2],[],[],0,[],[],Tryz.f138,[.agg [.int .i64,.int .i64]],[.c (.bool)],[(119,Zrg.S),(77,F77.S)]⟩
theorem ZyW:Zwi.S.Ok Tryz.prog 138:=Zwi.ok Tryz.func138 (by kernel_rfl) ⟨ZnF,⟨Zqg,trivial⟩⟩
noncomputable def Zym (a b:Int):Option (Bool):=Zwi.S.g [.i a,.i b]
theorem Zp1 (a b:Int):Zym a b =
 ((ZsO a).bind fun c=>
 if (!c) then
 some (true)
 else
 (g77 b).bind fun d=>
 some ((!d))):=by kernel_rfl
noncomputable def ZaL:Fn:=⟨19,[4],[(2,[(0,.c (.slice 2)),(1,.clo 138 []),(7,.c (.int .i64)),(8,.c (.int .i64))])],[],0,[],[],Tryz.f169,[.c (.slice 2),.clo 138 []],[.c (.int .i64)],[(138,Zwi.S)]⟩
theorem Znr:ZaL.S.Ok Tryz.prog 169:=ZaL.ok Tryz.func169 (by kernel_rfl) ⟨ZyW,trivial⟩
noncomputable def ZfD (a:LL):Option (Int):=ZaL.S.g [.l a]
noncomputable def KB (k:Nat) (a:LL) (b c:Int):Option (Int):=ZaL.lp [0] 0 r0 k [.l a,.i b,.i c]
theorem ZaY (k:Nat) (b:LL) (c a:Int):KB (k+1) b c a =
 (if (cop .lss a c) then
 Zl b a [.int .i64,.int .i64] fun (d:Int×Int)=>
 (Zym d.1 d.2).bind fun e=>
 if e then
 some (a)
 else
 KB k b c (iop .add .i64 a 1)
 else
 some ((-1))):=by kernel_rfl
theorem Zic (a:LL):ZfD a =
 (KB Zw a (List.length a:Int) 0):=by kernel_rfl
noncomputable def Zcd:Fn:=⟨9,[4],[],[],0,[],[],Tryz.f137,[.c (.slice 2),.clo 138 []],[.c (.bool)],[(169,ZaL.S)]⟩
theorem ZmG:Zcd.S.Ok Tryz.prog 137:=Zcd.ok Tryz.func137 (by kernel_rfl) ⟨Znr,trivial⟩
noncomputable def Zcg (a:LL):Option (Bool):=Zcd.S.g [.l a]
theorem Zil (a:LL):Zcg a =
 ((ZfD a).bind fun b=>
 some ((cop .geq b 0))):=by kernel_rfl
noncomputable def F78:Fn:=⟨114,[4],[],[],0,[],[],Tryz.f78,[.agg hs0,.c (.int .i64)],[.c (.bool)],[(119,Zrg.S),(120,Zug.S),(121,ZrZ.S),(122,Zvx.S),(123,Zcn.S),(126,Zuq.S),(127,Zcl.S),(76,F76.S),(130,Zcq.S),(132,Zbc.S),(134,Zw6.S),(135,ZsE.S),(136,ZuO.S),(137,Zcd.S)]⟩
theorem ZBG:F78.S.Ok Tryz.prog 78:=F78.ok Tryz.func78 (by kernel_rfl) ⟨ZnF,⟨Zu8,⟨Zot,⟨ZvN,⟨ZlX,⟨Zun,⟨ZlS,⟨Zxp,⟨ZlE,⟨Zln,⟨Zx3,⟨Zux,⟨ZtT,⟨ZmG,trivial⟩⟩⟩⟩⟩⟩⟩⟩⟩⟩⟩⟩⟩⟩
noncomputable def g78 (a c d e f h j k m n o:Int) (p:Bool) (q r s t u v w x y z A C D E G H J K L M:Int) (N:LL) (O P Q R T U:Int) (V:Bool) (W X Y Z:LL) (aa ab:Int) (ac ad ae af ag ah ai aj:LL) (ak al:Int) (am an ao ap aq ar aZ au:LL) (av:Bool) (aw:Int) (ax ay az a0 a1 a2 a3 a4:LL) (a5:Int):Option (Bool):=F78.S.g [.i a,.i c,.i d,.i e,.i f,.i h,.i j,.i k,.i m,.i n,.i o,.b p,.i q,.i r,.i s,.i t,.i u,.i v,.i w,.i x,.i y,.i z,.i A,.i C,.i D,.i E,.i G,.i H,.i J,.i K,.i L,.i M,.l N,.i O,.i P,.i Q,.i R,.i T,.i U,.b V,.l W,.l X,.l Y,.l Z,.i aa,.i ab,.l ac,.l ad,.l ae,.l af,.l ag,.l ah,.l ai,.l aj,.i ak,.i al,.l am,.l an,.l ao,.l ap,.l aq,.l ar,.l aZ,.l au,.b av,.i aw,.l ax,.l ay,.l az,.l a0,.l a1,.l a2,.l a3,.l a4,.i a5]
theorem KF (g x1 x2 x3 h i j k l m n:Int) (a2:Bool) (o p q r s t u v w x y z A C D E G H J K:Int) (L:LL) (M N O P Q R:Int) (T:Bool) (d c e f:LL) (U V:Int) (W X Y Z aa ab ac ad:LL) (ae af:Int) (ag ah ai aj ak al am an:LL) (ao:Bool) (ap:Int) (aq ar aZ au av aw ax ay:LL) (b:Int):g78 g x1 x2 x3 h i j k l m n a2 o p q r s t u v w x y z A C D E G H J K L M N O P Q R T d c e f U V W X Y Z aa ab ac ad ae af ag ah ai aj ak al am an ao ap aq ar aZ au av aw ax ay b =
 (if (cop .eql b 0) then
 (ZsO i).bind fun a=>
 some (a)
 else
 if (cop .eql b 1) then
 (Zwk o p q r s t u v w x y z A C D E G H J K L M N O P Q R T).bind fun a=>
 some (a)
 else
 if (cop .eql b 2) then
 (ZsQ k l m).bind fun a=>
 some (a)
 else
 if (cop .eql b 3) then
 (Zws n).bind fun a=>
 some (a)
 else
 if (cop .eql b 5) then
 if (cop .gtr (List.length c:Int) 8) then
 some (false)
 else
 if (cop .eql g 4) then
 if (cop .neq (List.length c:Int) 1) then
 some (false)
 else
 (Wi c).bind fun a=>
 some ((!a))
 else
 (Wi c).bind fun a=>
 some ((!a))
 else
 if (cop .eql b 6) then
 (ZwW j).bind fun a=>
 some (a)
 else
 if (cop .eql b 7) then
 if (cop .leq (List.length d:Int) 64) then
 (Zb6 d).bind fun a=>
 some ((!a))
 else
 some (false)
 else
 if (cop .eql b 8) then
 (g76 h).bind fun a=>
 some (a)
 else
 if (cop .eql b 9) then
 (Zb4 e).bind fun a=>
 if (!a) then
 (Zce (List.length e:Int) g x1 x2 x3 h i j k l m n a2 o p q r s t u v w x y z A C D E G H J K L M N O P Q R T d c e f U V W X Y Z aa ab ac ad ae af ag ah ai aj ak al am an ao ap aq ar aZ au av aw ax ay).bind fun a3=>
 some (a3.1)
 else
 some (false)
 else
 if (cop .eql b 10) then
 (Zyx ae af ag ah ai aj ak al am an ao ap aq ar aZ au av aw ax ay).bind fun a=>
 some (a)
 else
 if (cop .eql b 11) then
 (g76 U).bind fun a=>
 some (a)
 else
 if (cop .eql b 12) then
 (Zu2 V W X).bind fun a=>
 some (a)
 else
 if (cop .eql b 13) then
 (ZvR Y Z aa ab ac ad).bind fun a=>
 some (a)
 else
 if (cop .eql b 14) then
 if (cop .leq (List.length f:Int) 16) then
 (Zcg f).bind fun a=>
 some ((!a))
 else
 some (false)
 else
 some (true)):=by kernel_rfl
noncomputable def F79:Fn:=⟨85,[],[],[0],0,[],[],Tryz.f79,[.box hs0,.c (.int .i64)],[],[]⟩
theorem ZBD:F79.S.Ok Tryz.prog 79:=F79.ok Tryz.func79 (by kernel_rfl) trivial
noncomputable def g79 (a c d e f h j k m n o:Int) (p:Bool) (q r s t u v w x y z A C D E G H J K L M:Int) (N:LL) (O P Q R T U:Int) (V:Bool) (W X Y Z:LL) (aa ab:Int) (ac ad ae af ag ah ai aj:LL) (ak al:Int) (am an ao ap aq ar aZ au:LL) (av:Bool) (aw:Int) (ax ay az a0 a1 a2 a3 a4:LL) (a5:Int):Option (Qt2):=F79.S.g [.i a,.i c,.i d,.i e,.i f,.i h,.i j,.i k,.i m,.i n,.i o,.b p,.i q,.i r,.i s,.i t,.i u,.i v,.i w,.i x,.i y,.i z,.i A,.i C,.i D,.i E,.i G,.i H,.i J,.i K,.i L,.i M,.l N,.i O,.i P,.i Q,.i R,.i T,.i U,.b V,.l W,.l X,.l Y,.l Z,.i aa,.i ab,.l ac,.l ad,.l ae,.l af,.l ag,.l ah,.l ai,.l aj,.i ak,.i al,.l am,.l an,.l ao,.l ap,.l aq,.l ar,.l aZ,.l au,.b av,.i aw,.l ax,.l ay,.l az,.l a0,.l a1,.l a2,.l a3,.l a4,.i a5]
theorem KD (a b c d e f g h i j k:Int) (l:Bool) (m n o p q r s t u v w x y z A C D E G H:Int) (J:LL) (K L M N O P:Int) (Q:Bool) (R T U V:LL) (W X:Int) (Y Z aa ab ac ad ae af:LL) (ag ah:Int) (ai aj ak al am an ao ap:LL) (aq:Bool) (ar:Int) (aZ au av aw ax ay az a0:LL) (a1:Int):g79 a b c d e f g h i j k l m n o p q r s t u v w x y z A C D E G H J K L M N O P Q R T U V W X Y Z aa ab ac ad ae af ag ah ai aj ak al am an ao ap aq ar aZ au av aw ax ay az a0 a1 =
 (if (cop .eql a1 0) then
 some (a,b,c,d,e,0,g,h,i,j,k,l,m,n,o,p,q,r,s,t,u,v,w,x,y,z,A,C,D,E,G,H,J,K,L,M,N,O,P,Q,R,T,U,V,W,X,Y,Z,aa,ab,ac,ad,ae,af,ag,ah,ai,aj,ak,al,am,an,ao,ap,aq,ar,aZ,au,av,aw,ax,ay,az,a0)
 else
 if (cop .eql a1 1) then
 some (a,b,c,d,e,f,g,h,i,j,k,l,0,0,0,0,0,0,0,0,0,0,0,0,0,0,0,0,0,0,0,0,E0,0,0,0,0,0,0,false,R,T,U,V,W,X,Y,Z,aa,ab,ac,ad,ae,af,ag,ah,ai,aj,ak,al,am,an,ao,ap,aq,ar,aZ,au,av,aw,ax,ay,az,a0)
 else
 if (cop .eql a1 2) then
 some (a,b,c,d,e,f,g,0,0,0,k,l,m,n,o,p,q,r,s,t,u,v,w,x,y,z,A,C,D,E,G,H,J,K,L,M,N,O,P,Q,R,T,U,V,W,X,Y,Z,aa,ab,ac,ad,ae,af,ag,ah,ai,aj,ak,al,am,an,ao,ap,aq,ar,aZ,au,av,aw,ax,ay,az,a0)
 else
 if (cop .eql a1 3) then
 some (a,b,c,d,e,f,g,h,i,j,0,l,m,n,o,p,q,r,s,t,u,v,w,x,y,z,A,C,D,E,G,H,J,K,L,M,N,O,P,Q,R,T,U,V,W,X,Y,Z,aa,ab,ac,ad,ae,af,ag,ah,ai,aj,ak,al,am,an,ao,ap,aq,ar,aZ,au,av,aw,ax,ay,az,a0)
 else
 if (cop .eql a1 4) then
 some (a,b,c,d,e,f,g,h,i,j,k,false,m,n,o,p,q,r,s,t,u,v,w,x,y,z,A,C,D,E,G,H,J,K,L,M,N,O,P,Q,R,T,U,V,W,X,Y,Z,aa,ab,ac,ad,ae,af,ag,ah,ai,aj,ak,al,am,an,ao,ap,aq,ar,aZ,au,av,aw,ax,ay,az,a0)
 else
 if (cop .eql a1 5) then
 some (a,b,c,d,e,f,g,h,i,j,k,l,m,n,o,p,q,r,s,t,u,v,w,x,y,z,A,C,D,E,G,H,J,K,L,M,N,O,P,Q,R,E0,U,V,W,X,Y,Z,aa,ab,ac,ad,ae,af,ag,ah,ai,aj,ak,al,am,an,ao,ap,aq,ar,aZ,au,av,aw,ax,ay,az,a0)
 else
 if (cop .eql a1 6) then
 some (a,b,c,d,e,f,0,h,i,j,k,l,m,n,o,p,q,r,s,t,u,v,w,x,y,z,A,C,D,E,G,H,J,K,L,M,N,O,P,Q,R,T,U,V,W,X,Y,Z,aa,ab,ac,ad,ae,af,ag,ah,ai,aj,ak,al,am,an,ao,ap,aq,ar,aZ,au,av,aw,ax,ay,az,a0)
 else
 if (cop .eql a1 7) then
 some (a,b,c,d,e,f,g,h,i,j,k,l,m,n,o,p,q,r,s,t,u,v,w,x,y,z,A,C,D,E,G,H,J,K,L,M,N,O,P,Q,E0,T,U,V,W,X,Y,Z,aa,ab,ac,ad,ae,af,ag,ah,ai,aj,ak,al,am,an,ao,ap,aq,ar,aZ,au,av,aw,ax,ay,az,a0)
 else
 if (cop .eql a1 8) then
 some (a,b,c,d,0,f,g,h,i,j,k,l,m,n,o,p,q,r,s,t,u,v,w,x,y,z,A,C,D,E,G,H,J,K,L,M,N,O,P,Q,R,T,U,V,W,X,Y,Z,aa,ab,ac,ad,ae,af,ag,ah,ai,aj,ak,al,am,an,ao,ap,aq,ar,aZ,au,av,aw,ax,ay,az,a0)
 else
 if (cop .eql a1 9) then
 some (a,b,c,d,e,f,g,h,i,j,k,l,m,n,o,p,q,r,s,t,u,v,w,x,y,z,A,C,D,E,G,H,J,K,L,M,N,O,P,Q,R,T,E0,V,W,X,Y,Z,aa,ab,ac,ad,ae,af,ag,ah,ai,aj,ak,al,am,an,ao,ap,aq,ar,aZ,au,av,aw,ax,ay,az,a0)
 else
 if (cop .eql a1 10) then
 some (a,b,c,d,e,f,g,h,i,j,k,l,m,n,o,p,q,r,s,t,u,v,w,x,y,z,A,C,D,E,G,H,J,K,L,M,N,O,P,Q,R,T,U,V,W,X,Y,Z,aa,ab,ac,ad,ae,af,0,0,E0,E0,E0,E0,E0,E0,E0,E0,false,0,E0,E0,E0,E0,E0,E0,E0,E0)
 else
 if (cop .eql a1 11) then
 some (a,b,c,d,e,f,g,h,i,j,k,l,m,n,o,p,q,r,s,t,u,v,w,x,y,z,A,C,D,E,G,H,J,K,L,M,N,O,P,Q,R,T,U,V,0,X,Y,Z,aa,ab,ac,ad,ae,af,ag,ah,ai,aj,ak,al,am,an,ao,ap,aq,ar,aZ,au,av,aw,ax,ay,az,a0)
 else
 if (cop .eql a1 12) then
 some (a,b,c,d,e,f,g,h,i,j,k,l,m,n,o,p,q,r,s,t,u,v,w,x,y,z,A,C,D,E,G,H,J,K,L,M,N,O,P,Q,R,T,U,V,W,0,E0,E0,aa,ab,ac,ad,ae,af,ag,ah,ai,aj,ak,al,am,an,ao,ap,aq,ar,aZ,au,av,aw,ax,ay,az,a0)
 else
 if (cop .eql a1 13) then
 some (a,b,c,d,e,f,g,h,i,j,k,l,m,n,o,p,q,r,s,t,u,v,w,x,y,z,A,C,D,E,G,H,J,K,L,M,N,O,P,Q,R,T,U,V,W,X,Y,Z,E0,E0,E0,E0,E0,E0,ag,ah,ai,aj,ak,al,am,an,ao,ap,aq,ar,aZ,au,av,aw,ax,ay,az,a0)
 else
 if (cop .eql a1 14) then
 some (a,b,c,d,e,f,g,h,i,j,k,l,m,n,o,p,q,r,s,t,u,v,w,x,y,z,A,C,D,E,G,H,J,K,L,M,N,O,P,Q,R,T,U,E0,W,X,Y,Z,aa,ab,ac,ad,ae,af,ag,ah,ai,aj,ak,al,am,an,ao,ap,aq,ar,aZ,au,av,aw,ax,ay,az,a0)
 else
 some (a,b,c,d,e,f,g,h,i,j,k,l,m,n,o,p,q,r,s,t,u,v,w,x,y,z,A,C,D,E,G,H,J,K,L,M,N,O,P,Q,R,T,U,V,W,X,Y,Z,aa,ab,ac,ad,ae,af,ag,ah,ai,aj,ak,al,am,an,ao,ap,aq,ar,aZ,au,av,aw,ax,ay,az,a0)):=by kernel_rfl
noncomputable def ZwO:Fn:=⟨29,[2],[],[],0,[],[],Tryz.f139,[.agg hs3],[.c (.bool)],[(156,ZsN.S)]⟩
theorem Zzj:ZwO.S.Ok Tryz.prog 139:=ZwO.ok Tryz.func139 (by kernel_rfl) ⟨Zq0,trivial⟩
noncomputable def ZzE (a c d e f h j k m n o p q r s t u v w x:Int) (y:LL) (z A C D E G:Int) (H:Bool):Option (Bool):=ZwO.S.g [.i a,.i c,.i d,.i e,.i f,.i h,.i j,.i k,.i m,.i n,.i o,.i p,.i q,.i r,.i s,.i t,.i u,.i v,.i w,.i x,.l y,.i z,.i A,.i C,.i D,.i E,.i G,.b H]
theorem Zsx (a b c d e f g h i j k l m n o p q r s t:Int) (u:LL) (v w x y z A:Int) (C:Bool):ZzE a b c d e f g h i j k l m n o p q r s t u v w x y z A C =
 (if ((cop .eql a 0)&&((cop .eql b 0)&&((cop .eql c 0)&&true))) then
 if ((cop .eql d 0)&&((cop .eql e 0)&&((cop .eql f 0)&&((cop .eql g 0)&&((cop .eql h 0)&&((cop .eql i 0)&&((cop .eql j 0)&&((cop .eql k 0)&&((cop .eql l 0)&&((cop .eql m 0)&&((cop .eql n 0)&&((cop .eql o 0)&&true)))))))))))) then
 if (cop .eql p 0) then
 if (cop .eql q 0) then
 (Zp5 r s t u v w x y z A C 0 0 0 E0 0 0 0 0 0 0 false).bind fun D=>
 some (D)
 else
 some (false)
 else
 some (false)
 else
 some (false)
 else
 some (false)):=by kernel_rfl
noncomputable def Zv3:Fn:=⟨18,[2],[],[],0,[],[],Tryz.f140,[.agg [.int .i64,.slice 1,.slice 1]],[.c (.bool)],[]⟩
theorem ZvX:Zv3.S.Ok Tryz.prog 140:=Zv3.ok Tryz.func140 (by kernel_rfl) trivial
noncomputable def ZtH (a:Int) (b c:LL):Option (Bool):=Zv3.S.g [.i a,.l b,.l c]
theorem Zr2 (a:Int) (b c:LL):ZtH a b c =
 (if (cop .eql a 0) then
 if (cop .eql (List.length b:Int) 0) then
 some ((cop .eql (List.length c:Int) 0))
 else
 some (false)
 else
 some (false)):=by kernel_rfl
noncomputable def ZtP:Fn:=⟨37,[2],[],[],0,[],[],Tryz.f141,[.agg hs19],[.c (.bool)],[]⟩
theorem ZvE:ZtP.S.Ok Tryz.prog 141:=ZtP.ok Tryz.func141 (by kernel_rfl) trivial
noncomputable def ZtS (a b c d e f:LL):Option (Bool):=ZtP.S.g [.l a,.l b,.l c,.l d,.l e,.l f]
theorem ZrQ (a b c d e f:LL):ZtS a b c d e f =
 (if (cop .eql (List.length a:Int) 0) then
 if (cop .eql (List.length b:Int) 0) then
 if (cop .eql (List.length c:Int) 0) then
 if (cop .eql (List.length d:Int) 0) then
 if (cop .eql (List.length e:Int) 0) then
 some ((cop .eql (List.length f:Int) 0))
 else
 some (false)
 else
 some (false)
 else
 some (false)
 else
 some (false)
 else
 some (false)):=by kernel_rfl
noncomputable def Zwc:Fn:=⟨31,[2],[],[],0,[],[],Tryz.f142,[.agg hs4],[.c (.bool)],[(140,Zv3.S),(141,ZtP.S)]⟩
theorem Zxi:Zwc.S.Ok Tryz.prog 142:=Zwc.ok Tryz.func142 (by kernel_rfl) ⟨ZvX,⟨ZvE,trivial⟩⟩
noncomputable def Zw8 (a c:Int) (d e f h j k m n:LL) (o:Bool) (p:Int) (q r s t u v w x:LL):Option (Bool):=Zwc.S.g [.i a,.i c,.l d,.l e,.l f,.l h,.l j,.l k,.l m,.l n,.b o,.i p,.l q,.l r,.l s,.l t,.l u,.l v,.l w,.l x]
theorem ZqW (a b:Int) (c d e f g h i j:LL) (k:Bool) (l:Int) (m n o p q r s t:LL):Zw8 a b c d e f g h i j k l m n o p q r s t =
 (if (cop .eql a 0) then
 (ZtH b c d).bind fun u=>
 if u then
 (ZtS e f g h i j).bind fun v=>
 if v then
 if (!k) then
 (ZtH l m n).bind fun w=>
 if w then
 (ZtS o p q r s t).bind fun x=>
 some (x)
 else
 some (false)
 else
 some (false)
 else
 some (false)
 else
 some (false)
 else
 some (false)):=by kernel_rfl
noncomputable def F80:Fn:=⟨81,[2],[],[],0,[],[],Tryz.f80,[.agg hs0],[.c (.bool)],[(139,ZwO.S),(140,Zv3.S),(141,ZtP.S),(142,Zwc.S)]⟩
theorem ZAy:F80.S.Ok Tryz.prog 80:=F80.ok Tryz.func80 (by kernel_rfl) ⟨Zzj,⟨ZvX,⟨ZvE,⟨Zxi,trivial⟩⟩⟩⟩
noncomputable def g80 (a c d e f h j k m n o:Int) (p:Bool) (q r s t u v w x y z A C D E G H J K L M:Int) (N:LL) (O P Q R T U:Int) (V:Bool) (W X Y Z:LL) (aa ab:Int) (ac ad ae af ag ah ai aj:LL) (ak al:Int) (am an ao ap aq ar aZ au:LL) (av:Bool) (aw:Int) (ax ay az a0 a1 a2 a3 a4:LL):Option (Bool):=F80.S.g [.i a,.i c,.i d,.i e,.i f,.i h,.i j,.i k,.i m,.i n,.i o,.b p,.i q,.i r,.i s,.i t,.i u,.i v,.i w,.i x,.i y,.i z,.i A,.i C,.i D,.i E,.i G,.i H,.i J,.i K,.i L,.i M,.l N,.i O,.i P,.i Q,.i R,.i T,.i U,.b V,.l W,.l X,.l Y,.l Z,.i aa,.i ab,.l ac,.l ad,.l ae,.l af,.l ag,.l ah,.l ai,.l aj,.i ak,.i al,.l am,.l an,.l ao,.l ap,.l aq,.l ar,.l aZ,.l au,.b av,.i aw,.l ax,.l ay,.l az,.l a0,.l a1,.l a2,.l a3,.l a4]
theorem ZuP (x0 x1 x2 x3 a b c d e f g:Int) (h:Bool) (i j k l m n o p q r s t u v w x y z A C:Int) (D:LL) (E G H J K L:Int) (M:Bool) (N O P Q:LL) (R T:Int) (U V W X Y Z aa ab:LL) (ac ad:Int) (ae af ag ah ai aj ak al:LL) (am:Bool) (an:Int) (ao ap aq ar aZ au av aw:LL):g80 x0 x1 x2 x3 a b c d e f g h i j k l m n o p q r s t u v w x y z A C D E G H J K L M N O P Q R T U V W X Y Z aa ab ac ad ae af ag ah ai aj ak al am an ao ap aq ar aZ au av aw =
 (if (cop .eql a 0) then
 if (cop .eql b 0) then
 if (cop .eql c 0) then
 if ((cop .eql d 0)&&((cop .eql e 0)&&((cop .eql f 0)&&true))) then
 if (cop .eql g 0) then
 if (!h) then
 (ZzE i j k l m n o p q r s t u v w x y z A C D E G H J K L M).bind fun a1=>
 if a1 then
 if (cop .eql (List.length N:Int) 0) then
 if (cop .eql (List.length O:Int) 0) then
 if (cop .eql (List.length P:Int) 0) then
 if (cop .eql (List.length Q:Int) 0) then
 if (cop .eql R 0) then
 (ZtH T U V).bind fun a2=>
 if a2 then
 (ZtS W X Y Z aa ab).bind fun a3=>
 if a3 then
 (Zw8 ac ad ae af ag ah ai aj ak al am an ao ap aq ar aZ au av aw).bind fun a4=>
 some (a4)
 else
 some (false)
 else
 some (false)
 else
 some (false)
 else
 some (false)
 else
 some (false)
 else
 some (false)
 else
 some (false)
 else
 some (false)
 else
 some (false)
 else
 some (false)
 else
 some (false)
 else
 some (false)
 else
 some (false)
 else
 some (false)):=by kernel_rfl
noncomputable def F44:Fn:=⟨50,[2],[(6,[(1,.box hs0),(5,.box hs0),(35,.c (.slice 1)),(36,.c (.int .i64)),(37,.c (.int .i64))])],[],0,[],[],Tryz.f44,[.agg hs0],[.c (.bool)],[(75,F75.S),(76,F76.S),(77,F77.S),(78,F78.S),(79,F79.S),(80,F80.S)]⟩
theorem ZBy:F44.S.Ok Tryz.prog 44:=F44.ok Tryz.func44 (by kernel_rfl) ⟨ZAM,⟨Zxp,⟨Zqg,⟨ZBG,⟨ZBD,⟨ZAy,trivial⟩⟩⟩⟩⟩⟩
noncomputable def g44 (a c d e f h j k m n o:Int) (p:Bool) (q r s t u v w x y z A C D E G H J K L M:Int) (N:LL) (O P Q R T U:Int) (V:Bool) (W X Y Z:LL) (aa ab:Int) (ac ad ae af ag ah ai aj:LL) (ak al:Int) (am an ao ap aq ar aZ au:LL) (av:Bool) (aw:Int) (ax ay az a0 a1 a2 a3 a4:LL):Option (Bool):=F44.S.g [.i a,.i c,.i d,.i e,.i f,.i h,.i j,.i k,.i m,.i n,.i o,.b p,.i q,.i r,.i s,.i t,.i u,.i v,.i w,.i x,.i y,.i z,.i A,.i C,.i D,.i E,.i G,.i H,.i J,.i K,.i L,.i M,.l N,.i O,.i P,.i Q,.i R,.i T,.i U,.b V,.l W,.l X,.l Y,.l Z,.i aa,.i ab,.l ac,.l ad,.l ae,.l af,.l ag,.l ah,.l ai,.l aj,.i ak,.i al,.l am,.l an,.l ao,.l ap,.l aq,.l ar,.l aZ,.l au,.b av,.i aw,.l ax,.l ay,.l az,.l a0,.l a1,.l a2,.l a3,.l a4]
noncomputable def Zpo (k:Nat) (a c d e f g h j m n o:Int) (p:Bool) (q r s t u v w x y z A C D E G H J K L M:Int) (N:LL) (O P Q R T U:Int) (V:Bool) (W X Y Z:LL) (aa ab:Int) (ac ad ae af ag ah ai aj:LL) (ak al:Int) (am an ao ap aq ar aZ au:LL) (av:Bool) (aw:Int) (ax ay az a0 a1 a2 a3 a4:LL) (a5 a6 a7 a8 a9 ba bb bc bd be bf:Int) (bg:Bool) (bh bi bj bk bl bm bn bo bp bq br bs bt bu bv bw bx bz b0 b1:Int) (b2:LL) (b3 b4 b5 b6 b7 b8:Int) (b9:Bool) (ca cb cc cd:LL) (ce cf:Int) (cg ch ci cj ck cl cm cn:LL) (co cp:Int) (cq cr cs ct cu cv cw cx:LL) (cy:Bool) (cz:Int) (c0 c1 c2 c3 c4 c5 c6 c7 c8:LL) (c9 da:Int):Option (Bool):=F44.lp [0,1,0,1,0,1,0,1,0] 0 r0 k [.i a,.i c,.i d,.i e,.i f,.i g,.i h,.i j,.i m,.i n,.i o,.b p,.i q,.i r,.i s,.i t,.i u,.i v,.i w,.i x,.i y,.i z,.i A,.i C,.i D,.i E,.i G,.i H,.i J,.i K,.i L,.i M,.l N,.i O,.i P,.i Q,.i R,.i T,.i U,.b V,.l W,.l X,.l Y,.l Z,.i aa,.i ab,.l ac,.l ad,.l ae,.l af,.l ag,.l ah,.l ai,.l aj,.i ak,.i al,.l am,.l an,.l ao,.l ap,.l aq,.l ar,.l aZ,.l au,.b av,.i aw,.l ax,.l ay,.l az,.l a0,.l a1,.l a2,.l a3,.l a4,.i a5,.i a6,.i a7,.i a8,.i a9,.i ba,.i bb,.i bc,.i bd,.i be,.i bf,.b bg,.i bh,.i bi,.i bj,.i bk,.i bl,.i bm,.i bn,.i bo,.i bp,.i bq,.i br,.i bs,.i bt,.i bu,.i bv,.i bw,.i bx,.i bz,.i b0,.i b1,.l b2,.i b3,.i b4,.i b5,.i b6,.i b7,.i b8,.b b9,.l ca,.l cb,.l cc,.l cd,.i ce,.i cf,.l cg,.l ch,.l ci,.l cj,.l ck,.l cl,.l cm,.l cn,.i co,.i cp,.l cq,.l cr,.l cs,.l ct,.l cu,.l cv,.l cw,.l cx,.b cy,.i cz,.l c0,.l c1,.l c2,.l c3,.l c4,.l c5,.l c6,.l c7,.l c8,.i c9,.i da]
theorem Zjw (k:Nat) (d e f g h i j l m n o:Int) (p:Bool) (q r s t u v w x y z A C D E G H J K L M:Int) (N:LL) (O P Q R T U:Int) (V:Bool) (W X Y Z:LL) (aa ab:Int) (ac ad ae af ag ah ai aj:LL) (ak al:Int) (am an ao ap aq ar aZ au:LL) (av:Bool) (aw:Int) (ax ay az a0 a1 a2 a3 a4:LL) (a5 a6 a7 a8 a9 ba bb bc bd be bf:Int) (bg:Bool) (bh bi bj bk bl bm bn bo bp bq br bs bt bu bv bw bx bz b0 b1:Int) (b2:LL) (b3 b4 b5 b6 b7 b8:Int) (b9:Bool) (ca cb cc cd:LL) (ce cf:Int) (cg ch ci cj ck cl cm cn:LL) (co cp:Int) (cq cr cs ct cu cv cw cx:LL) (cy:Bool) (cz:Int) (c0 c1 c2 c3 c4 c5 c6 c7 c8:LL) (c9 b:Int):Zpo (k+1) d e f g h i j l m n o p q r s t u v w x y z A C D E G H J K L M N O P Q R T U V W X Y Z aa ab ac ad ae af ag ah ai aj ak al am an ao ap aq ar aZ au av aw ax ay az a0 a1 a2 a3 a4 a5 a6 a7 a8 a9 ba bb bc bd be bf bg bh bi bj bk bl bm bn bo bp bq br bs bt bu bv bw bx bz b0 b1 b2 b3 b4 b5 b6 b7 b8 b9 ca cb cc cd ce cf cg ch ci cj ck cl cm cn co cp cq cr cs ct cu cv cw cx cy cz c0 c1 c2 c3 c4 c5 c6 c7 c8 c9 b =
 (if (cop .lss b c9) then
 Zl c8 b [.int .i64] fun (c:Int)=>
 (g78 d e f g h i j l m n o p q r s t u v w x y z A C D E G H J K L M N O P Q R T U V W X Y Z aa ab ac ad ae af ag ah ai aj ak al am an ao ap aq ar aZ au av aw ax ay az a0 a1 a2 a3 a4 c).bind fun da=>
 if (!da) then
 some (false)
 else
 (g79 a5 a6 a7 a8 a9 ba bb bc bd be bf bg bh bi bj bk bl bm bn bo bp bq br bs bt bu bv bw bx bz b0 b1 b2 b3 b4 b5 b6 b7 b8 b9 ca cb cc cd ce cf cg ch ci cj ck cl cm cn co cp cq cr cs ct cu cv cw cx cy cz c0 c1 c2 c3 c4 c5 c6 c7 c).bind fun a=>
 Zpo k d e f g h i j l m n o p q r s t u v w x y z A C D E G H J K L M N O P Q R T U V W X Y Z aa ab ac ad ae af ag ah ai aj ak al am an ao ap aq ar aZ au av aw ax ay az a0 a1 a2 a3 a4 a.1 a.2.1 a.2.2.1 a.2.2.2.1 a.2.2.2.2.1 a.2.2.2.2.2.1 a.2.2.2.2.2.2.1 a.2.2.2.2.2.2.2.1 a.2.2.2.2.2.2.2.2.1 a.2.2.2.2.2.2.2.2.2.1 a.2.2.2.2.2.2.2.2.2.2.1 a.2.2.2.2.2.2.2.2.2.2.2.1 (d4 (d8 a)).1 (d4 (d8 a)).2.1 (d2 (d4 (d8 a))).1 (d2 (d4 (d8 a))).2.1 (d16 a).1 (d16 a).2.1 (d2 (d16 a)).1 (d2 (d16 a)).2.1 (d4 (d16 a)).1 (d4 (d16 a)).2.1 (d2 (d4 (d16 a))).1 (d2 (d4 (d16 a))).2.1 (d8 (d16 a)).1 (d8 (d16 a)).2.1 (d2 (d8 (d16 a))).1 (d2 (d8 (d16 a))).2.1 (d4 (d8 (d16 a))).1 (d4 (d8 (d16 a))).2.1 (d2 (d4 (d8 (d16 a)))).1 (d2 (d4 (d8 (d16 a)))).2.1 (d16 (d16 a)).1 (d16 (d16 a)).2.1 (d2 (d16 (d16 a))).1 (d2 (d16 (d16 a))).2.1 (d4 (d16 (d16 a))).1 (d4 (d16 (d16 a))).2.1 (d2 (d4 (d16 (d16 a)))).1 (d2 (d4 (d16 (d16 a)))).2.1 (d8 (d16 (d16 a))).1 (d8 (d16 (d16 a))).2.1 (d2 (d8 (d16 (d16 a)))).1 (d2 (d8 (d16 (d16 a)))).2.1 (d4 (d8 (d16 (d16 a)))).1 (d4 (d8 (d16 (d16 a)))).2.1 (d2 (d4 (d8 (d16 (d16 a))))).1 (d2 (d4 (d8 (d16 (d16 a))))).2.1 (d16 (d16 (d16 a))).1 (d16 (d16 (d16 a))).2.1 (d2 (d16 (d16 (d16 a)))).1 (d2 (d16 (d16 (d16 a)))).2.1 (d4 (d16 (d16 (d16 a)))).1 (d4 (d16 (d16 (d16 a)))).2.1 (d2 (d4 (d16 (d16 (d16 a))))).1 (d2 (d4 (d16 (d16 (d16 a))))).2.1 (d8 (d16 (d16 (d16 a)))).1 (d8 (d16 (d16 (d16 a)))).2.1 (d2 (d8 (d16 (d16 (d16 a))))).1 (d2 (d8 (d16 (d16 (d16 a))))).2.1 (d4 (d8 (d16 (d16 (d16 a))))).1 (d4 (d8 (d16 (d16 (d16 a))))).2.1 (d2 (d4 (d8 (d16 (d16 (d16 a)))))).1 (d2 (d4 (d8 (d16 (d16 (d16 a)))))).2.1 (d16 (d16 (d16 (d16 a)))).1 (d16 (d16 (d16 (d16 a)))).2.1 (d2 (d16 (d16 (d16 (d16 a))))).1 (d2 (d16 (d16 (d16 (d16 a))))).2.1 (d4 (d16 (d16 (d16 (d16 a))))).1 (d4 (d16 (d16 (d16 (d16 a))))).2.1 (d2 (d4 (d16 (d16 (d16 (d16 a)))))).1 (d2 (d4 (d16 (d16 (d16 (d16 a)))))).2.1 (d8 (d16 (d16 (d16 (d16 a))))).1 (d8 (d16 (d16 (d16 (d16 a))))).2 c8 c9 (iop .add .i64 b 1)
 else
 (g80 a5 a6 a7 a8 a9 ba bb bc bd be bf bg bh bi bj bk bl bm bn bo bp bq br bs bt bu bv bw bx bz b0 b1 b2 b3 b4 b5 b6 b7 b8 b9 ca cb cc cd ce cf cg ch ci cj ck cl cm cn co cp cq cr cs ct cu cv cw cx cy cz c0 c1 c2 c3 c4 c5 c6 c7).bind fun c=>
 some (c)):=by kernel_rfl
theorem ZtB (a b c d e f g h i j k:Int) (l:Bool) (m n o p q r s t u v w x y z A C D E G H:Int) (J:LL) (K L M N O P:Int) (Q:Bool) (R T U V:LL) (W X:Int) (Y Z aa ab ac ad ae af:LL) (ag ah:Int) (ai aj ak al am an ao ap:LL) (aq:Bool) (ar:Int) (aZ au av aw ax ay az a0:LL):g44 a b c d e f g h i j k l m n o p q r s t u v w x y z A C D E G H J K L M N O P Q R T U V W X Y Z aa ab ac ad ae af ag ah ai aj ak al am an ao ap aq ar aZ au av aw ax ay az a0 =
 ((g75 a).bind fun a1=>
 if (!a1.2) then
 some (false)
 else
 (g76 b).bind fun a2=>
 if (!a2) then
 some (false)
 else
 (g77 c).bind fun a3=>
 if (!a3) then
 some (false)
 else
 (g77 d).bind fun a4=>
 if (!a4) then
 some (false)
 else
 Zpo Zw a b c d e f g h i j k l m n o p q r s t u v w x y z A C D E G H J K L M N O P Q R T U V W X Y Z aa ab ac ad ae af ag ah ai aj ak al am an ao ap aq ar aZ au av aw ax ay az a0 a b c d e f g h i j k l m n o p q r s t u v w x y z A C D E G H J K L M N O P Q R T U V W X Y Z aa ab ac ad ae af ag ah ai aj ak al am an ao ap aq ar aZ au av aw ax ay az a0 a1.1 (List.length a1.1:Int) 0):=by kernel_rfl
noncomputable def F95:Fn:=⟨9,[2],[],[],0,[],[],Tryz.f95,[.c (.int .i64)],[.c (.bool)],[]⟩
theorem ZzQ:F95.S.Ok Tryz.prog 95:=F95.ok Tryz.func95 (by kernel_rfl) trivial
noncomputable def g95 (a:Int):Option (Bool):=F95.S.g [.i a]
theorem ZuB (a:Int):g95 a =
 (if (cop .geq a 0) then
 some ((cop .leq a 1073741824))
 else
 some (false)):=by kernel_rfl
noncomputable def F96:Fn:=⟨9,[2],[],[],0,[],[],Tryz.f96,[.c (.int .i64)],[.c (.bool)],[]⟩
theorem ZsB:F96.S.Ok Tryz.prog 96:=F96.ok Tryz.func96 (by kernel_rfl) trivial
noncomputable def g96 (a:Int):Option (Bool):=F96.S.g [.i a]
theorem Ztw (a:Int):g96 a =
 (if (cop .geq a 0) then
 some ((cop .lss a 32))
 else
 some (false)):=by kernel_rfl
noncomputable def F94:Fn:=⟨31,[2],[],[],0,[],[],Tryz.f94,[.agg [.int .i64,.int .i64,.int .i64]],[.c (.bool)],[]⟩
theorem ZuV:F94.S.Ok Tryz.prog 94:=F94.ok Tryz.func94 (by kernel_rfl) trivial
noncomputable def g94 (a b c:Int):Option (Bool):=F94.S.g [.i a,.i b,.i c]
theorem Zva (a b c:Int):g94 a b c =
 (if (cop .geq a 0) then
 if (cop .lss a 32) then
 if (cop .geq b 1) then
 if (cop .leq b 1073741824) then
 if (cop .geq c 0) then
 some ((cop .lss c 8))
 else
 some (false)
 else
 some (false)
 else
 some (false)
 else
 some (false)
 else
 some (false)):=by kernel_rfl
noncomputable def F98:Fn:=⟨10,[2],[],[],0,[],[],Tryz.f98,[.agg [.int .i64,.int .i64,.int .i64]],[.c (.bool)],[(94,F94.S)]⟩
theorem Zyu:F98.S.Ok Tryz.prog 98:=F98.ok Tryz.func98 (by kernel_rfl) ⟨ZuV,trivial⟩
noncomputable def g98 (a b c:Int):Option (Bool):=F98.S.g [.i a,.i b,.i c]
theorem Zv5 (b c a:Int):g98 b c a =
 ((g94 b c a).bind fun d=>
 if d then
 some ((cop .eql a 0))
 else
 some (false)):=by kernel_rfl
noncomputable def ZrM:Fn:=⟨9,[2],[],[],0,[],[],Tryz.f106,[.c (.int .i64)],[.c (.bool)],[]⟩
theorem Zpk:ZrM.S.Ok Tryz.prog 106:=ZrM.ok Tryz.func106 (by kernel_rfl) trivial
noncomputable def ZqO (a:Int):Option (Bool):=ZrM.S.g [.i a]
theorem ZqI (a:Int):ZqO a =
 (if (cop .geq a 0) then
 some ((cop .lss a 16))
 else
 some (false)):=by kernel_rfl
noncomputable def F83:Fn:=⟨26,[4],[(4,[(0,.c (.slice 3)),(1,.c (.slice 3)),(5,.c (.int .i64))])],[],0,[],[],Tryz.f83,[.c (.slice 3),.c (.slice 3)],[.c (.bool)],[]⟩
theorem ZxH:F83.S.Ok Tryz.prog 83:=F83.ok Tryz.func83 (by kernel_rfl) trivial
noncomputable def g83 (a b:LL):Option (Bool):=F83.S.g [.l a,.l b]
noncomputable def Zpp (k:Nat) (a b:LL) (c:Int):Option (Bool):=F83.lp [1,0] 0 r0 k [.l a,.l b,.i c]
theorem Zj1 (k:Nat) (b c:LL) (a:Int):Zpp (k+1) b c a =
 (if (cop .lss a (List.length b:Int)) then
 Zl b a [.int .i64,.int .i64,.int .i64] fun (d:Int×Int×Int)=>
 Zl c a [.int .i64,.int .i64,.int .i64] fun (e:Int×Int×Int)=>
 if (!((cop .eql d.1 e.1)&&((cop .eql d.2.1 e.2.1)&&((cop .eql d.2.2 e.2.2)&&true)))) then
 some (false)
 else
 Zpp k b c (iop .add .i64 a 1)
 else
 some (true)):=by kernel_rfl
theorem Ztb (a b:LL):g83 a b =
 (if (cop .neq (List.length a:Int) (List.length b:Int)) then
 some (false)
 else
 Zpp Zw a b 0):=by kernel_rfl
noncomputable def F49:Fn:=⟨24,[4],[],[],0,[],[],Tryz.f49,[.agg hs10,.agg hs10],[.c (.bool)],[(83,F83.S)]⟩
theorem ZsF:F49.S.Ok Tryz.prog 49:=F49.ok Tryz.func49 (by kernel_rfl) ⟨ZxH,trivial⟩
noncomputable def g49 (a c d:Int) (e:LL) (f h j k m n:Int) (o:Bool) (p q r:Int) (s:LL) (t u v w x y:Int) (z:Bool):Option (Bool):=F49.S.g [.i a,.i c,.i d,.l e,.i f,.i h,.i j,.i k,.i m,.i n,.b o,.i p,.i q,.i r,.l s,.i t,.i u,.i v,.i w,.i x,.i y,.b z]
theorem ZuZ (a b c:Int) (d:LL) (e f g h i j:Int) (k:Bool) (l m n:Int) (o:LL) (p q r s t u:Int) (v:Bool):g49 a b c d e f g h i j k l m n o p q r s t u v =
 (if ((cop .eql a l)&&((cop .eql b m)&&((cop .eql c n)&&true))) then
 if ((cop .eql e p)&&((cop .eql f q)&&((cop .eql g r)&&((cop .eql h s)&&((cop .eql i t)&&((cop .eql j u)&&((k == v)&&true))))))) then
 (g83 d o).bind fun w=>
 some (w)
 else
 some (false)
 else
 some (false)):=by kernel_rfl
noncomputable def ZwB:Fn:=⟨12,[2],[],[],0,[],[],Tryz.f149,[.c (.int .i64)],[.c (.int .i64)],[]⟩
theorem Zxk:ZwB.S.Ok Tryz.prog 149:=ZwB.ok Tryz.func149 (by kernel_rfl) trivial
noncomputable def ZyJ (a:Int):Option (Int):=ZwB.S.g [.i a]
theorem ZrA (a:Int):ZyJ a =
 (if (cop .eql a 3) then
 some (12)
 else
 if (cop .eql a 4) then
 some (6)
 else
 if (cop .eql a 5) then
 some (10)
 else
 if (cop .eql a 6) then
 some (16)
 else
 some (0)):=by kernel_rfl
noncomputable def F91:Fn:=⟨35,[4],[],[],0,[],[],Tryz.f91,[.c (.int .i64),.c (.int .i64)],[.c (.bool)],[(149,ZwB.S)]⟩
theorem ZAl:F91.S.Ok Tryz.prog 91:=F91.ok Tryz.func91 (by kernel_rfl) ⟨Zxk,trivial⟩
noncomputable def g91 (a b:Int):Option (Bool):=F91.S.g [.i a,.i b]
theorem ZtA (a b:Int):g91 a b =
 (if (cop .eql a 1) then
 if (cop .geq b 6) then
 some ((cop .leq b 40))
 else
 some (false)
 else
 if (cop .eql a 2) then
 if (cop .geq b 12) then
 some ((cop .leq b 40))
 else
 some (false)
 else
 if (cop .geq a 3) then
 if (cop .leq a 6) then
 (ZyJ a).bind fun c=>
 some ((cop .eql b c))
 else
 some (false)
 else
 some (false)):=by kernel_rfl
noncomputable def F87:Fn:=⟨8,[2],[],[],0,[],[],Tryz.f87,[.agg hs16],[.agg [.int .i64,.int .i64]],[]⟩
theorem ZzJ:F87.S.Ok Tryz.prog 87:=F87.ok Tryz.func87 (by kernel_rfl) trivial
noncomputable def g87 (a c d e f h:Int) (j:Bool):Option (Int×Int):=F87.S.g [.i a,.i c,.i d,.i e,.i f,.i h,.b j]
theorem ZvT (c a b d e f:Int) (g:Bool):g87 c a b d e f g =
 (some (a,b)):=by kernel_rfl
noncomputable def ZqD:Fn:=⟨38,[2],[],[],0,[],[],Tryz.f145,[.agg [.int .i64,.int .i64]],[.c (.bool)],[]⟩
theorem ZoZ:ZqD.S.Ok Tryz.prog 145:=ZqD.ok Tryz.func145 (by kernel_rfl) trivial
noncomputable def ZpX (a b:Int):Option (Bool):=ZqD.S.g [.i a,.i b]
theorem ZqZ (b a:Int):ZpX b a =
 (if (cop .lss a 6) then
 some (false)
 else
 if (cop .gtr a 40) then
 some (false)
 else
 if (cop .lss b 0) then
 some (false)
 else
 if (cop .geq b 1099511627776) then
 some (false)
 else
 ZA ((0:Int)≤(IntKind.wrap .u64 a))<|
 ZA (((iop .shl .i64 1 (IntKind.wrap .u64 a)):Int)≠0)<|
 if (cop .eql (iop .rem .i64 b (iop .shl .i64 1 (IntKind.wrap .u64 a))) 0) then
 some ((cop .leq (iop .add .i64 b (iop .shl .i64 1 (IntKind.wrap .u64 a))) 1099511627776))
 else
 some (false)):=by kernel_rfl
noncomputable def F92:Fn:=⟨23,[4],[],[],0,[],[],Tryz.f92,[.c (.int .i64),.c (.int .i64)],[.c (.bool)],[]⟩
theorem Zz5:F92.S.Ok Tryz.prog 92:=F92.ok Tryz.func92 (by kernel_rfl) trivial
noncomputable def g92 (a b:Int):Option (Bool):=F92.S.g [.i a,.i b]
theorem Ztu (b a:Int):g92 b a =
 (if (cop .geq a 0) then
 if (cop .eql b 32) then
 if (cop .leq a 1) then
 some (true)
 else
 if (cop .eql b 39) then
 some ((cop .leq a 2))
 else
 some (false)
 else
 if (cop .eql b 39) then
 some ((cop .leq a 2))
 else
 some (false)
 else
 some (false)):=by kernel_rfl
noncomputable def F90:Fn:=⟨64,[2],[],[],0,[],[],Tryz.f90,[.agg hs16],[.c (.bool)],[(91,F91.S),(87,F87.S),(145,ZqD.S),(92,F92.S)]⟩
theorem Zzi:F90.S.Ok Tryz.prog 90:=F90.ok Tryz.func90 (by kernel_rfl) ⟨ZAl,⟨ZzJ,⟨ZoZ,⟨Zz5,trivial⟩⟩⟩⟩
noncomputable def g90 (a c d e f h:Int) (j:Bool):Option (Bool):=F90.S.g [.i a,.i c,.i d,.i e,.i f,.i h,.b j]
theorem Ztp (a g f e c d:Int) (b:Bool):g90 a g f e c d b =
 ((g91 a f).bind fun i=>
 if (!i) then
 some (false)
 else
 (g87 a g f e c d b).bind fun h=>
 (ZpX h.1 h.2).bind fun j=>
 if (!j) then
 some (false)
 else
 if (cop .lss e 0) then
 some (false)
 else
 if (cop .gtr e 7) then
 some (false)
 else
 if (cop .eql a 3) then
 (g92 c d).bind fun k=>
 if (!k) then
 some (false)
 else
 if (cop .neq a 3) then
 if (cop .neq c 0) then
 some (false)
 else
 if (cop .neq d 0) then
 some (false)
 else
 if (!b) then
 some (true)
 else
 if (cop .eql a 1) then
 some (true)
 else
 some ((cop .eql a 2))
 else
 if (!b) then
 some (true)
 else
 if (cop .eql a 1) then
 some (true)
 else
 some ((cop .eql a 2))
 else
 if (cop .neq a 3) then
 if (cop .neq c 0) then
 some (false)
 else
 if (cop .neq d 0) then
 some (false)
 else
 if (!b) then
 some (true)
 else
 if (cop .eql a 1) then
 some (true)
 else
 some ((cop .eql a 2))
 else
 if (!b) then
 some (true)
 else
 if (cop .eql a 1) then
 some (true)
 else
 some ((cop .eql a 2))):=by kernel_rfl
noncomputable def F58:Fn:=⟨18,[4],[(2,[(0,.c (.slice 3)),(3,.box [.int .i64,.int .i64,.int .i64]),(5,.c (.int .i64))])],[],0,[],[],Tryz.f58,[.c (.slice 3),.agg [.int .i64,.int .i64,.int .i64]],[.c (.bool)],[]⟩
theorem Zxm:F58.S.Ok Tryz.prog 58:=F58.ok Tryz.func58 (by kernel_rfl) trivial
noncomputable def g58 (a:LL) (b c d:Int):Option (Bool):=F58.S.g [.l a,.i b,.i c,.i d]
noncomputable def ZoP (k:Nat) (a:LL) (b c d e:Int):Option (Bool):=F58.lp [0] 0 r0 k [.l a,.i b,.i c,.i d,.i e]
theorem Zi0 (k:Nat) (a:LL) (c d e b:Int):ZoP (k+1) a c d e b =
 (if (cop .lss b (List.length a:Int)) then
 Zl a b [.int .i64,.int .i64,.int .i64] fun (f:Int×Int×Int)=>
 if ((cop .eql f.1 c)&&((cop .eql f.2.1 d)&&((cop .eql f.2.2 e)&&true))) then
 some (true)
 else
 ZoP k a c d e (iop .add .i64 b 1)
 else
 some (false)):=by kernel_rfl
theorem Ztz (a:LL) (b c d:Int):g58 a b c d =
 (ZoP Zw a b c d 0):=by kernel_rfl
noncomputable def F93:Fn:=⟨53,[2],[(4,[(1,.box hs10),(3,.c (.int .i64))])],[],0,[],[],Tryz.f93,[.agg hs10],[.c (.bool)],[(94,F94.S),(90,F90.S),(58,F58.S)]⟩
theorem ZsP:F93.S.Ok Tryz.prog 93:=F93.ok Tryz.func93 (by kernel_rfl) ⟨ZuV,⟨Zzi,⟨Zxm,trivial⟩⟩⟩
noncomputable def g93 (a c d:Int) (e:LL) (f h j k m n:Int) (o:Bool):Option (Bool):=F93.S.g [.i a,.i c,.i d,.l e,.i f,.i h,.i j,.i k,.i m,.i n,.b o]
noncomputable def Zom (k:Nat) (a c d:Int) (e:LL) (f g h j m n:Int) (o:Bool) (p:Int):Option (Bool):=F93.lp [0,1,0,1,1,0,1,0] 0 r0 k [.i a,.i c,.i d,.l e,.i f,.i g,.i h,.i j,.i m,.i n,.b o,.i p]
theorem Zi6 (k:Nat) (e f g:Int) (b:LL) (h i j l m n:Int) (o:Bool) (a:Int):Zom (k+1) e f g b h i j l m n o a =
 (if (cop .lss a (List.length b:Int)) then
 Zl b a [.int .i64,.int .i64,.int .i64] fun (c:Int×Int×Int)=>
 (g94 c.1 c.2.1 c.2.2).bind fun p=>
 if (!p) then
 some (false)
 else
 ZA ((0:Int)≤a)<|
 ZA ((a:Int)≤(List.length b:Int))<|
 Zl b a [.int .i64,.int .i64,.int .i64] fun (d:Int×Int×Int)=>
 (g58 (List.take (Int.toNat a) b) d.1 d.2.1 d.2.2).bind fun q=>
 if q then
 some (false)
 else
 Zom k e f g b h i j l m n o (iop .add .i64 a 1)
 else
 some (true)):=by kernel_rfl
theorem Ztq (a b c:Int) (d:LL) (e f g h i j:Int) (k:Bool):g93 a b c d e f g h i j k =
 ((g94 a b c).bind fun l=>
 if (!l) then
 some (false)
 else
 (g90 e f g h i j k).bind fun m=>
 if (!m) then
 some (false)
 else
 if (cop .gtr (List.length d:Int) 8) then
 some (false)
 else
 (g58 d a b c).bind fun n=>
 if n then
 some (false)
 else
 Zom Zw a b c d e f g h i j k 0):=by kernel_rfl
noncomputable def F97:Fn:=⟨46,[2],[],[],0,[],[],Tryz.f97,[.agg hs3],[.c (.bool)],[(98,F98.S),(106,ZrM.S),(49,F49.S),(93,F93.S)]⟩
theorem ZAf:F97.S.Ok Tryz.prog 97:=F97.ok Tryz.func97 (by kernel_rfl) ⟨Zyu,⟨Zpk,⟨ZsF,⟨ZsP,trivial⟩⟩⟩⟩
noncomputable def g97 (a c d e f h j k m n o p q r s t u v w x:Int) (y:LL) (z A C D E G:Int) (H:Bool):Option (Bool):=F97.S.g [.i a,.i c,.i d,.i e,.i f,.i h,.i j,.i k,.i m,.i n,.i o,.i p,.i q,.i r,.i s,.i t,.i u,.i v,.i w,.i x,.l y,.i z,.i A,.i C,.i D,.i E,.i G,.b H]
theorem Zv7 (o p q b s t u v w x y z A C D r n c d e:Int) (f:LL) (g h i j k l:Int) (m:Bool):g97 o p q b s t u v w x y z A C D r n c d e f g h i j k l m =
 ((g98 o p q).bind fun E=>
 if (!E) then
 some (false)
 else
 if (cop .lss b 1) then
 some (false)
 else
 if (cop .gtr b 6) then
 some (false)
 else
 (ZqO r).bind fun G=>
 if (!G) then
 some (false)
 else
 if (cop .neq n 32) then
 if (cop .neq n 39) then
 some (false)
 else
 if (cop .eql b 1) then
 (g49 c d e f g h i j k l m 0 0 0 E0 0 0 0 0 0 0 false).bind fun a=>
 some (a)
 else
 (g93 c d e f g h i j k l m).bind fun a=>
 some (a)
 else
 if (cop .eql b 1) then
 (g49 c d e f g h i j k l m 0 0 0 E0 0 0 0 0 0 0 false).bind fun a=>
 some (a)
 else
 (g93 c d e f g h i j k l m).bind fun a=>
 some (a)):=by kernel_rfl
noncomputable def F99:Fn:=⟨9,[2],[],[],0,[],[],Tryz.f99,[.c (.int .i64)],[.c (.bool)],[]⟩
theorem ZzL:F99.S.Ok Tryz.prog 99:=F99.ok Tryz.func99 (by kernel_rfl) trivial
noncomputable def g99 (a:Int):Option (Bool):=F99.S.g [.i a]
theorem ZuX (a:Int):g99 a =
 (if (cop .geq a 0) then
 some ((cop .leq a 99))
 else
 some (false)):=by kernel_rfl
noncomputable def ZsK:Fn:=⟨29,[4],[(2,[(0,.c (.slice 3)),(1,.c (.bool)),(5,.c (.int .i64))])],[],0,[],[],Tryz.f100,[.c (.slice 3),.c (.bool)],[.c (.bool)],[(94,F94.S)]⟩
theorem ZtL:ZsK.S.Ok Tryz.prog 100:=ZsK.ok Tryz.func100 (by kernel_rfl) ⟨ZuV,trivial⟩
noncomputable def ZwQ (a:LL) (c:Bool):Option (Bool):=ZsK.S.g [.l a,.b c]
noncomputable def ZbT (k:Nat) (a:LL) (c:Bool) (d:Int):Option (Bool):=ZsK.lp [0] 0 r0 k [.l a,.b c,.i d]
theorem Zf3 (k:Nat) (a:LL) (c:Bool) (b:Int):ZbT (k+1) a c b =
 (if (cop .lss b (List.length a:Int)) then
 Zl a b [.int .i64,.int .i64,.int .i64] fun (d:Int×Int×Int)=>
 (g94 d.1 d.2.1 d.2.2).bind fun e=>
 if (!e) then
 some (false)
 else
 if c then
 Zl a b [.int .i64,.int .i64,.int .i64] fun (f:Int×Int×Int)=>
 if (cop .neq f.2.2 0) then
 some (false)
 else
 ZbT k a c (iop .add .i64 b 1)
 else
 ZbT k a c (iop .add .i64 b 1)
 else
 some (true)):=by kernel_rfl
theorem Zry (a:LL) (b:Bool):ZwQ a b =
 (ZbT Zw a b 0):=by kernel_rfl
noncomputable def ZuT:Fn:=⟨32,[2],[(2,[(0,.c (.slice 1)),(3,.c (.int .i64))])],[],0,[],[],Tryz.f101,[.c (.slice 1)],[.c (.bool)],[(96,F96.S)]⟩
theorem Zy3:ZuT.S.Ok Tryz.prog 101:=ZuT.ok Tryz.func101 (by kernel_rfl) ⟨ZsB,trivial⟩
noncomputable def Zuw (a:LL):Option (Bool):=ZuT.S.g [.l a]
noncomputable def ZbP (k:Nat) (a:LL) (b:Int):Option (Bool):=ZuT.lp [0] 0 r0 k [.l a,.i b]
theorem Zgy (k:Nat) (b:LL) (a:Int):ZbP (k+1) b a =
 (if (cop .lss a (List.length b:Int)) then
 Zl b a [.int .i64] fun (c:Int)=>
 (g96 c).bind fun d=>
 if (!d) then
 some (false)
 else
 if (cop .gtr a 0) then
 Zl b a [.int .i64] fun (e:Int)=>
 Zl b (iop .sub .i64 a 1) [.int .i64] fun (f:Int)=>
 if (cop .leq e f) then
 some (false)
 else
 ZbP k b (iop .add .i64 a 1)
 else
 ZbP k b (iop .add .i64 a 1)
 else
 some (true)):=by kernel_rfl
theorem Zp7 (a:LL):Zuw a =
 (ZbP Zw a 0):=by kernel_rfl
noncomputable def F59:Fn:=⟨18,[4],[(2,[(0,.c (.slice 1)),(1,.c (.int .i64)),(5,.c (.int .i64))])],[],0,[],[],Tryz.f59,[.c (.slice 1),.c (.int .i64)],[.c (.bool)],[]⟩
theorem Zz8:F59.S.Ok Tryz.prog 59:=F59.ok Tryz.func59 (by kernel_rfl) trivial
noncomputable def g59 (a:LL) (b:Int):Option (Bool):=F59.S.g [.l a,.i b]
noncomputable def ZhO (k:Nat) (a:LL) (b c:Int):Option (Bool):=F59.lp [0] 0 r0 k [.l a,.i b,.i c]
theorem ZiZ (k:Nat) (a:LL) (c b:Int):ZhO (k+1) a c b =
 (if (cop .lss b (List.length a:Int)) then
 Zl a b [.int .i64] fun (d:Int)=>
 if (cop .eql d c) then
 some (true)
 else
 ZhO k a c (iop .add .i64 b 1)
 else
 some (false)):=by kernel_rfl
theorem Zuf (a:LL) (b:Int):g59 a b =
 (ZhO Zw a b 0):=by kernel_rfl
noncomputable def Zp6:Fn:=⟨61,[2],[(4,[(1,.box [.int .i64,.slice 1,.slice 1]),(3,.c (.int .i64))]),(9,[(1,.box [.int .i64,.slice 1,.slice 1]),(4,.c (.int .i64))])],[],0,[],[],Tryz.f103,[.agg [.int .i64,.slice 1,.slice 1]],[.c (.bool)],[(95,F95.S),(96,F96.S),(59,F59.S)]⟩
theorem Zuc:Zp6.S.Ok Tryz.prog 103:=Zp6.ok Tryz.func103 (by kernel_rfl) ⟨ZzQ,⟨ZsB,⟨Zz8,trivial⟩⟩⟩
noncomputable def ZtK (a:Int) (b c:LL):Option (Bool):=Zp6.S.g [.i a,.l b,.l c]
noncomputable def Zc2 (k:Nat) (a:Int) (b c:LL) (d:Int):Option (Bool):=Zp6.lp [0,1,1,1,0,1,0] 0 r0 k [.i a,.l b,.l c,.i d]
theorem Zgg (k:Nat) (c:Int) (d a:LL) (b:Int):Zc2 (k+1) c d a b =
 (if (cop .lss b (List.length a:Int)) then
 Zl a b [.int .i64] fun (e:Int)=>
 (g96 e).bind fun f=>
 if (!f) then
 some (false)
 else
 Zc2 k c d a (iop .add .i64 b 1)
 else
 some (true)):=by kernel_rfl
noncomputable def Zdc (k:Nat) (a:Int) (b c:LL) (d:Int):Option (Bool):=Zp6.lp [0,1,1,1,0] 0 r0 k [.i a,.l b,.l c,.i d]
theorem ZgV (k:Nat) (c:Int) (a d:LL) (b:Int):Zdc (k+1) c a d b =
 (if (cop .lss b (List.length a:Int)) then
 Zl a b [.int .i64] fun (e:Int)=>
 (g96 e).bind fun f=>
 if (!f) then
 some (false)
 else
 ZA ((0:Int)≤b)<|
 ZA ((b:Int)≤(List.length a:Int))<|
 Zl a b [.int .i64] fun (g:Int)=>
 (g59 (List.take (Int.toNat b) a) g).bind fun h=>
 if h then
 some (false)
 else
 Zdc k c a d (iop .add .i64 b 1)
 else
 Zc2 Zw c a d 0):=by kernel_rfl
theorem ZrV (a:Int) (b c:LL):ZtK a b c =
 ((g95 a).bind fun d=>
 if (!d) then
 some (false)
 else
 if (cop .gtr (List.length b:Int) 32) then
 some (false)
 else
 if (cop .gtr (List.length c:Int) 16) then
 some (false)
 else
 Zdc Zw a b c 0):=by kernel_rfl
noncomputable def F13:Fn:=⟨8,[2],[],[],0,[],[],Tryz.f13,[.agg hs8],[.c (.bool)],[]⟩
theorem Zs0:F13.S.Ok Tryz.prog 13:=F13.ok Tryz.func13 (by kernel_rfl) trivial
noncomputable def g13 (a c d:Int) (e:LL) (f h j k m n:Int) (o:Bool) (p q r s:Int):Option (Bool):=F13.S.g [.i a,.i c,.i d,.l e,.i f,.i h,.i j,.i k,.i m,.i n,.b o,.i p,.i q,.i r,.i s]
theorem ZmJ (a b c:Int) (d:LL) (e f g h i j:Int) (k:Bool) (l m n o:Int):g13 a b c d e f g h i j k l m n o =
 (some (((cop .eql a 0)&&((cop .eql b 0)&&((cop .eql c 0)&&true))))):=by kernel_rfl
noncomputable def ZsU:Fn:=⟨29,[4],[(2,[(0,.c (.slice 15)),(3,.box [.int .i64,.int .i64,.int .i64]),(5,.c (.int .i64))])],[],0,[],[],Tryz.f151,[.c (.slice 15),.agg [.int .i64,.int .i64,.int .i64]],[.c (.int .i64)],[(13,F13.S)]⟩
theorem Zt8:ZsU.S.Ok Tryz.prog 151:=ZsU.ok Tryz.func151 (by kernel_rfl) ⟨Zs0,trivial⟩
noncomputable def ZsW (a:LL) (b c d:Int):Option (Int):=ZsU.S.g [.l a,.i b,.i c,.i d]
noncomputable def WK (k:Nat) (a:LL) (b c d e:Int):Option (Int):=ZsU.lp [0] 0 r0 k [.l a,.i b,.i c,.i d,.i e]
theorem Za3 (k:Nat) (c:LL) (d e f b:Int):WK (k+1) c d e f b =
 (if (cop .lss b (List.length c:Int)) then
 Zl c b hs8 fun (a:Qt13)=>
 (g13 a.1 a.2.1 a.2.2.1 a.2.2.2.1 a.2.2.2.2.1 a.2.2.2.2.2.1 a.2.2.2.2.2.2.1 a.2.2.2.2.2.2.2.1 a.2.2.2.2.2.2.2.2.1 a.2.2.2.2.2.2.2.2.2.1 a.2.2.2.2.2.2.2.2.2.2.1 a.2.2.2.2.2.2.2.2.2.2.2.1 (d4 (d8 a)).1 (d4 (d8 a)).2.1 (d2 (d4 (d8 a)))).bind fun h=>
 if (!h) then
 Zl c b hs8 fun (g:Qt13)=>
 if ((cop .eql g.1 d)&&((cop .eql g.2.1 e)&&((cop .eql g.2.2.1 f)&&true))) then
 some (b)
 else
 WK k c d e f (iop .add .i64 b 1)
 else
 WK k c d e f (iop .add .i64 b 1)
 else
 some ((-1))):=by kernel_rfl
theorem Znm (a:LL) (b c d:Int):ZsW a b c d =
 (WK Zw a b c d 0):=by kernel_rfl
noncomputable def ZvZ:Fn:=⟨70,[2],[(4,[(0,.c (.slice 15)),(3,.c (.int .i64))])],[],0,[],[],Tryz.f150,[.c (.slice 15)],[.c (.bool)],[(94,F94.S),(13,F13.S),(49,F49.S),(93,F93.S),(151,ZsU.S)]⟩
theorem Zyh:ZvZ.S.Ok Tryz.prog 150:=ZvZ.ok Tryz.func150 (by kernel_rfl) ⟨ZuV,⟨Zs0,⟨ZsF,⟨ZsP,⟨Zt8,trivial⟩⟩⟩⟩⟩
noncomputable def Zxn (a:LL):Option (Bool):=ZvZ.S.g [.l a]
noncomputable def WS (k:Nat) (a:LL) (b:Int):Option (Bool):=ZvZ.lp [1,0] 0 r0 k [.l a,.i b]
theorem Zg6 (k:Nat) (b:LL) (c:Int):WS (k+1) b c =
 (if (cop .lss c (List.length b:Int)) then
 Zl b c hs8 fun (a:Qt13)=>
 if (cop .lss a.2.2.2.2.2.2.2.2.2.2.2.1 0) then
 some (false)
 else
 if (cop .gtr a.2.2.2.2.2.2.2.2.2.2.2.1 1073741824) then
 some (false)
 else
 if (!((cop .eql (d4 (d8 a)).1 0)&&((cop .eql (d4 (d8 a)).2.1 0)&&((cop .eql (d2 (d4 (d8 a))) 0)&&true)))) then
 (g94 (d4 (d8 a)).1 (d4 (d8 a)).2.1 (d2 (d4 (d8 a)))).bind fun f=>
 if (!f) then
 some (false)
 else
 if (cop .neq (d2 (d4 (d8 a))) 0) then
 some (false)
 else
 (g13 a.1 a.2.1 a.2.2.1 a.2.2.2.1 a.2.2.2.2.1 a.2.2.2.2.2.1 a.2.2.2.2.2.2.1 a.2.2.2.2.2.2.2.1 a.2.2.2.2.2.2.2.2.1 a.2.2.2.2.2.2.2.2.2.1 a.2.2.2.2.2.2.2.2.2.2.1 a.2.2.2.2.2.2.2.2.2.2.2.1 (d4 (d8 a)).1 (d4 (d8 a)).2.1 (d2 (d4 (d8 a)))).bind fun d=>
 if d then
 (g49 a.1 a.2.1 a.2.2.1 a.2.2.2.1 a.2.2.2.2.1 a.2.2.2.2.2.1 a.2.2.2.2.2.2.1 a.2.2.2.2.2.2.2.1 a.2.2.2.2.2.2.2.2.1 a.2.2.2.2.2.2.2.2.2.1 a.2.2.2.2.2.2.2.2.2.2.1 0 0 0 E0 0 0 0 0 0 0 false).bind fun e=>
 if (!e) then
 some (false)
 else
 if (!((cop .eql (d4 (d8 a)).1 0)&&((cop .eql (d4 (d8 a)).2.1 0)&&((cop .eql (d2 (d4 (d8 a))) 0)&&true)))) then
 some (false)
 else
 WS k b (iop .add .i64 c 1)
 else
 (g93 a.1 a.2.1 a.2.2.1 a.2.2.2.1 a.2.2.2.2.1 a.2.2.2.2.2.1 a.2.2.2.2.2.2.1 a.2.2.2.2.2.2.2.1 a.2.2.2.2.2.2.2.2.1 a.2.2.2.2.2.2.2.2.2.1 a.2.2.2.2.2.2.2.2.2.2.1).bind fun e=>
 if (!e) then
 some (false)
 else
 (ZsW b a.1 a.2.1 a.2.2.1).bind fun g=>
 if (cop .neq g c) then
 some (false)
 else
 WS k b (iop .add .i64 c 1)
 else
 (g13 a.1 a.2.1 a.2.2.1 a.2.2.2.1 a.2.2.2.2.1 a.2.2.2.2.2.1 a.2.2.2.2.2.2.1 a.2.2.2.2.2.2.2.1 a.2.2.2.2.2.2.2.2.1 a.2.2.2.2.2.2.2.2.2.1 a.2.2.2.2.2.2.2.2.2.2.1 a.2.2.2.2.2.2.2.2.2.2.2.1 (d4 (d8 a)).1 (d4 (d8 a)).2.1 (d2 (d4 (d8 a)))).bind fun f=>
 if f then
 (g49 a.1 a.2.1 a.2.2.1 a.2.2.2.1 a.2.2.2.2.1 a.2.2.2.2.2.1 a.2.2.2.2.2.2.1 a.2.2.2.2.2.2.2.1 a.2.2.2.2.2.2.2.2.1 a.2.2.2.2.2.2.2.2.2.1 a.2.2.2.2.2.2.2.2.2.2.1 0 0 0 E0 0 0 0 0 0 0 false).bind fun d=>
 if (!d) then
 some (false)
 else
 if (!((cop .eql (d4 (d8 a)).1 0)&&((cop .eql (d4 (d8 a)).2.1 0)&&((cop .eql (d2 (d4 (d8 a))) 0)&&true)))) then
 some (false)
 else
 WS k b (iop .add .i64 c 1)
 else
 (g93 a.1 a.2.1 a.2.2.1 a.2.2.2.1 a.2.2.2.2.1 a.2.2.2.2.2.1 a.2.2.2.2.2.2.1 a.2.2.2.2.2.2.2.1 a.2.2.2.2.2.2.2.2.1 a.2.2.2.2.2.2.2.2.2.1 a.2.2.2.2.2.2.2.2.2.2.1).bind fun d=>
 if (!d) then
 some (false)
 else
 (ZsW b a.1 a.2.1 a.2.2.1).bind fun e=>
 if (cop .neq e c) then
 some (false)
 else
 WS k b (iop .add .i64 c 1)
 else
 some (true)):=by kernel_rfl
theorem Zqv (a:LL):Zxn a =
 (if (cop .gtr (List.length a:Int) 64) then
 some (false)
 else
 WS Zw a 0):=by kernel_rfl
noncomputable def F25:Fn:=⟨30,[4],[],[],0,[],[],Tryz.f25,[.agg [.int .i64,.int .i64,.int .i64],.agg [.int .i64,.int .i64,.int .i64]],[.c (.bool)],[]⟩
theorem Zzy:F25.S.Ok Tryz.prog 25:=F25.ok Tryz.func25 (by kernel_rfl) trivial
noncomputable def g25 (a b c d e f:Int):Option (Bool):=F25.S.g [.i a,.i b,.i c,.i d,.i e,.i f]
theorem ZtW (a b e c d f:Int):g25 a b e c d f =
 (if (cop .neq a c) then
 some ((cop .lss a c))
 else
 if (cop .neq b d) then
 some ((cop .lss b d))
 else
 some ((cop .lss e f))):=by kernel_rfl
noncomputable def ZoJ:Fn:=⟨186,[2],[(4,[(1,.box hs19),(3,.c (.int .i64))]),(9,[(1,.box hs19),(4,.c (.int .i64))]),(15,[(1,.box hs19),(6,.c (.int .i64))]),(21,[(1,.box hs19),(8,.c (.int .i64))])],[],0,[],[],Tryz.f104,[.agg hs19],[.c (.bool)],[(150,ZvZ.S),(100,ZsK.S),(97,F97.S),(25,F25.S),(106,ZrM.S),(98,F98.S),(99,F99.S),(96,F96.S),(93,F93.S)]⟩
theorem ZuH:ZoJ.S.Ok Tryz.prog 104:=ZoJ.ok Tryz.func104 (by kernel_rfl) ⟨Zyh,⟨ZtL,⟨ZAf,⟨Zzy,⟨Zpk,⟨Zyu,⟨ZzL,⟨ZsB,⟨ZsP,trivial⟩⟩⟩⟩⟩⟩⟩⟩⟩
noncomputable def Zvh (a b c d e f:LL):Option (Bool):=ZoJ.S.g [.l a,.l b,.l c,.l d,.l e,.l f]
noncomputable def V8 (k:Nat) (a b c d e f:LL) (g:Int):Option (Bool):=ZoJ.lp [0,1,0,1,0,1,0,1,0,1,0] 0 r0 k [.l a,.l b,.l c,.l d,.l e,.l f,.i g]
theorem Zf7 (k:Nat) (d e f g c h:LL) (b:Int):V8 (k+1) d e f g c h b =
 (if (cop .lss b (List.length c:Int)) then
 Zl c b hs9 fun (a:Qt14)=>
 (g96 a.1).bind fun j=>
 if (!j) then
 some (false)
 else
 if (cop .lss a.2.1 0) then
 some (false)
 else
 if (cop .geq a.2.1 64) then
 some (false)
 else
 (g93 a.2.2.1 a.2.2.2.1 a.2.2.2.2.1 a.2.2.2.2.2.1 a.2.2.2.2.2.2.1 a.2.2.2.2.2.2.2.1 a.2.2.2.2.2.2.2.2.1 a.2.2.2.2.2.2.2.2.2.1 a.2.2.2.2.2.2.2.2.2.2.1 a.2.2.2.2.2.2.2.2.2.2.2.1 (d4 (d8 a))).bind fun l=>
 if (!l) then
 some (false)
 else
 if (cop .gtr b 0) then
 Zl c (iop .sub .i64 b 1) hs9 fun (i:Qt14)=>
 (g25 i.2.2.1 i.2.2.2.1 i.2.2.2.2.1 a.2.2.1 a.2.2.2.1 a.2.2.2.2.1).bind fun m=>
 if (!m) then
 some (false)
 else
 V8 k d e f g c h (iop .add .i64 b 1)
 else
 V8 k d e f g c h (iop .add .i64 b 1)
 else
 some (true)):=by kernel_rfl
noncomputable def We (k:Nat) (a b c d e f:LL) (g:Int):Option (Bool):=ZoJ.lp [0,1,0,1,0,1,0,1,0] 0 r0 k [.l a,.l b,.l c,.l d,.l e,.l f,.i g]
theorem Zga (k:Nat) (c d e a f g:LL) (b:Int):We (k+1) c d e a f g b =
 (if (cop .lss b (List.length a:Int)) then
 Zl a b [.int .i64,.int .i64] fun (h:Int×Int)=>
 if (cop .lss h.1 1) then
 some (false)
 else
 if (cop .gtr h.1 1073741824) then
 some (false)
 else
 (g99 h.2).bind fun i=>
 if (!i) then
 some (false)
 else
 if (cop .gtr b 0) then
 Zl a (iop .sub .i64 b 1) [.int .i64,.int .i64] fun (j:Int×Int)=>
 if (cop .leq h.1 j.1) then
 some (false)
 else
 We k c d e a f g (iop .add .i64 b 1)
 else
 We k c d e a f g (iop .add .i64 b 1)
 else
 V8 Zw c d e a f g 0):=by kernel_rfl
noncomputable def VY (k:Nat) (a b c d e f:LL) (g:Int):Option (Bool):=ZoJ.lp [0,1,0,1,0,1,0] 0 r0 k [.l a,.l b,.l c,.l d,.l e,.l f,.i g]
theorem Zhc (k:Nat) (d e a f g h:LL) (b:Int):VY (k+1) d e a f g h b =
 (if (cop .lss b (List.length a:Int)) then
 Zl a b [.int .i64,.int .i64,.int .i64,.int .i64] fun (c:Int×Int×Int×Int)=>
 (ZqO c.1).bind fun i=>
 if (!i) then
 some (false)
 else
 (g98 c.2.1 c.2.2.1 c.2.2.2).bind fun j=>
 if (!j) then
 some (false)
 else
 if (cop .gtr b 0) then
 Zl a (iop .sub .i64 b 1) [.int .i64,.int .i64,.int .i64,.int .i64] fun (l:Int×Int×Int×Int)=>
 if (cop .leq c.1 l.1) then
 some (false)
 else
 VY k d e a f g h (iop .add .i64 b 1)
 else
 VY k d e a f g h (iop .add .i64 b 1)
 else
 We Zw d e a f g h 0):=by kernel_rfl
noncomputable def Za7 (k:Nat) (a b c d e f:LL) (g:Int):Option (Bool):=ZoJ.lp [0,1,0,1,0] 0 r0 k [.l a,.l b,.l c,.l d,.l e,.l f,.i g]
theorem ZgK (k:Nat) (d b e f g h:LL) (c:Int):Za7 (k+1) d b e f g h c =
 (if (cop .lss c (List.length b:Int)) then
 Zl b c hs3 fun (a:Qt7)=>
 (g97 a.1 a.2.1 a.2.2.1 a.2.2.2.1 a.2.2.2.2.1 a.2.2.2.2.2.1 a.2.2.2.2.2.2.1 a.2.2.2.2.2.2.2.1 a.2.2.2.2.2.2.2.2.1 a.2.2.2.2.2.2.2.2.2.1 a.2.2.2.2.2.2.2.2.2.2.1 a.2.2.2.2.2.2.2.2.2.2.2.1 (d4 (d8 a)).1 (d4 (d8 a)).2.1 (d2 (d4 (d8 a))).1 (d2 (d4 (d8 a))).2.1 (d16 a).1 (d16 a).2.1 (d2 (d16 a)).1 (d2 (d16 a)).2.1 (d4 (d16 a)).1 (d4 (d16 a)).2.1 (d2 (d4 (d16 a))).1 (d2 (d4 (d16 a))).2.1 (d8 (d16 a)).1 (d8 (d16 a)).2.1 (d2 (d8 (d16 a))).1 (d2 (d8 (d16 a))).2).bind fun l=>
 if (!l) then
 some (false)
 else
 if (cop .gtr c 0) then
 Zl b (iop .sub .i64 c 1) hs3 fun (i:Qt7)=>
 Zl b c hs3 fun (j:Qt7)=>
 (g25 i.1 i.2.1 i.2.2.1 j.1 j.2.1 j.2.2.1).bind fun m=>
 if (!m) then
 some (false)
 else
 Za7 k d b e f g h (iop .add .i64 c 1)
 else
 Za7 k d b e f g h (iop .add .i64 c 1)
 else
 VY Zw d b e f g h 0):=by kernel_rfl
theorem Zsf (a c d e f b:LL):Zvh a c d e f b =
 ((Zxn a).bind fun g=>
 if (!g) then
 some (false)
 else
 (ZwQ b true).bind fun h=>
 if (!h) then
 some (false)
 else
 Za7 Zw a c d e f b 0):=by kernel_rfl
noncomputable def Zv9:Fn:=⟨26,[2],[],[],0,[],[],Tryz.f102,[.agg hs4],[.c (.bool)],[(96,F96.S),(103,Zp6.S),(104,ZoJ.S)]⟩
theorem Zy4:Zv9.S.Ok Tryz.prog 102:=Zv9.ok Tryz.func102 (by kernel_rfl) ⟨ZsB,⟨Zuc,⟨ZuH,trivial⟩⟩⟩
noncomputable def Zzv (a c:Int) (d e f h j k m n:LL) (o:Bool) (p:Int) (q r s t u v w x:LL):Option (Bool):=Zv9.S.g [.i a,.i c,.l d,.l e,.l f,.l h,.l j,.l k,.l m,.l n,.b o,.i p,.l q,.l r,.l s,.l t,.l u,.l v,.l w,.l x]
theorem ZqA (a b:Int) (c d e f g h i j:LL) (t:Bool) (k:Int) (l m n o p q r s:LL):Zzv a b c d e f g h i j t k l m n o p q r s =
 ((g96 a).bind fun u=>
 if u then
 (ZtK b c d).bind fun v=>
 if v then
 (ZtK k l m).bind fun w=>
 if w then
 (Zvh e f g h i j).bind fun x=>
 if x then
 (Zvh n o p q r s).bind fun y=>
 some (y)
 else
 some (false)
 else
 some (false)
 else
 some (false)
 else
 some (false)):=by kernel_rfl
noncomputable def ZvS:Fn:=⟨29,[2],[(2,[(0,.c (.slice 2)),(3,.c (.int .i64))])],[],0,[],[],Tryz.f105,[.c (.slice 2)],[.c (.bool)],[(106,ZrM.S),(96,F96.S)]⟩
theorem Zzp:ZvS.S.Ok Tryz.prog 105:=ZvS.ok Tryz.func105 (by kernel_rfl) ⟨Zpk,⟨ZsB,trivial⟩⟩
noncomputable def Zzd (a:LL):Option (Bool):=ZvS.S.g [.l a]
noncomputable def ZdA (k:Nat) (a:LL) (b:Int):Option (Bool):=ZvS.lp [0] 0 r0 k [.l a,.i b]
theorem ZgQ (k:Nat) (a:LL) (b:Int):ZdA (k+1) a b =
 (if (cop .lss b (List.length a:Int)) then
 Zl a b [.int .i64,.int .i64] fun (c:Int×Int)=>
 (ZqO c.1).bind fun d=>
 if (!d) then
 some (false)
 else
 Zl a b [.int .i64,.int .i64] fun (e:Int×Int)=>
 (g96 e.2).bind fun f=>
 if (!f) then
 some (false)
 else
 ZdA k a (iop .add .i64 b 1)
 else
 some ((cop .leq (List.length a:Int) 16))):=by kernel_rfl
theorem Zqd (a:LL):Zzd a =
 (ZdA Zw a 0):=by kernel_rfl
noncomputable def F64:Fn:=⟨38,[4],[],[],0,[],[],Tryz.f64,[.agg hs3,.agg hs3],[.c (.bool)],[(49,F49.S)]⟩
theorem ZzO:F64.S.Ok Tryz.prog 64:=F64.ok Tryz.func64 (by kernel_rfl) ⟨ZsF,trivial⟩
noncomputable def g64 (a c d e f h j k m n o p q r s t u v w x:Int) (y:LL) (z A C D E G:Int) (H:Bool) (J K L M N O P Q R T U V W X Y Z aa ab ac ad:Int) (ae:LL) (af ag ah ai aj ak:Int) (al:Bool):Option (Bool):=F64.S.g [.i a,.i c,.i d,.i e,.i f,.i h,.i j,.i k,.i m,.i n,.i o,.i p,.i q,.i r,.i s,.i t,.i u,.i v,.i w,.i x,.l y,.i z,.i A,.i C,.i D,.i E,.i G,.b H,.i J,.i K,.i L,.i M,.i N,.i O,.i P,.i Q,.i R,.i T,.i U,.i V,.i W,.i X,.i Y,.i Z,.i aa,.i ab,.i ac,.i ad,.l ae,.i af,.i ag,.i ah,.i ai,.i aj,.i ak,.b al]
theorem Ztr (a b c d e f g h i j k l m n o p q r s t:Int) (u:LL) (v w x y z A:Int) (C:Bool) (D E G H J K L M N O P Q R T U V W X Y Z:Int) (aa:LL) (ab ac ad ae af ag:Int) (ah:Bool):g64 a b c d e f g h i j k l m n o p q r s t u v w x y z A C D E G H J K L M N O P Q R T U V W X Y Z aa ab ac ad ae af ag ah =
 (if ((cop .eql a D)&&((cop .eql b E)&&((cop .eql c G)&&true))) then
 if ((cop .eql d H)&&((cop .eql e J)&&((cop .eql f K)&&((cop .eql g L)&&((cop .eql h M)&&((cop .eql i N)&&((cop .eql j O)&&((cop .eql k P)&&((cop .eql l Q)&&((cop .eql m R)&&((cop .eql n T)&&((cop .eql o U)&&true)))))))))))) then
 if (cop .eql p V) then
 if (cop .eql q W) then
 (g49 r s t u v w x y z A C X Y Z aa ab ac ad ae af ag ah).bind fun ai=>
 some (ai)
 else
 some (false)
 else
 some (false)
 else
 some (false)
 else
 some (false)):=by kernel_rfl
noncomputable def ZvG:Fn:=⟨27,[4],[(4,[(0,.c (.slice 11)),(1,.c (.slice 11)),(5,.c (.int .i64))])],[],0,[],[],Tryz.f109,[.c (.slice 11),.c (.slice 11)],[.c (.bool)],[(49,F49.S)]⟩
theorem Zy2:ZvG.S.Ok Tryz.prog 109:=ZvG.ok Tryz.func109 (by kernel_rfl) ⟨ZsF,trivial⟩
noncomputable def Zxv (a b:LL):Option (Bool):=ZvG.S.g [.l a,.l b]
noncomputable def Zho (k:Nat) (a b:LL) (c:Int):Option (Bool):=ZvG.lp [1,0] 0 r0 k [.l a,.l b,.i c]
theorem Zhm (k:Nat) (d e:LL) (c:Int):Zho (k+1) d e c =
 (if (cop .lss c (List.length d:Int)) then
 Zl d c hs10 fun (a:Qt20)=>
 Zl e c hs10 fun (b:Qt20)=>
 (g49 a.1 a.2.1 a.2.2.1 a.2.2.2.1 a.2.2.2.2.1 a.2.2.2.2.2.1 a.2.2.2.2.2.2.1 a.2.2.2.2.2.2.2.1 a.2.2.2.2.2.2.2.2.1 a.2.2.2.2.2.2.2.2.2.1 a.2.2.2.2.2.2.2.2.2.2 b.1 b.2.1 b.2.2.1 b.2.2.2.1 b.2.2.2.2.1 b.2.2.2.2.2.1 b.2.2.2.2.2.2.1 b.2.2.2.2.2.2.2.1 b.2.2.2.2.2.2.2.2.1 b.2.2.2.2.2.2.2.2.2.1 b.2.2.2.2.2.2.2.2.2.2).bind fun f=>
 if (!f) then
 some (false)
 else
 Zho k d e (iop .add .i64 c 1)
 else
 some (true)):=by kernel_rfl
theorem Zr0 (a b:LL):Zxv a b =
 (if (cop .neq (List.length a:Int) (List.length b:Int)) then
 some (false)
 else
 Zho Zw a b 0):=by kernel_rfl
noncomputable def Zs2:Fn:=⟨26,[4],[(4,[(0,.c (.slice 1)),(1,.c (.slice 1)),(5,.c (.int .i64))])],[],0,[],[],Tryz.f110,[.c (.slice 1),.c (.slice 1)],[.c (.bool)],[]⟩
theorem ZvH:Zs2.S.Ok Tryz.prog 110:=Zs2.ok Tryz.func110 (by kernel_rfl) trivial
noncomputable def Zto (a b:LL):Option (Bool):=Zs2.S.g [.l a,.l b]
noncomputable def Zgk (k:Nat) (a b:LL) (c:Int):Option (Bool):=Zs2.lp [1,0] 0 r0 k [.l a,.l b,.i c]
theorem ZgH (k:Nat) (b c:LL) (a:Int):Zgk (k+1) b c a =
 (if (cop .lss a (List.length b:Int)) then
 Zl b a [.int .i64] fun (d:Int)=>
 Zl c a [.int .i64] fun (e:Int)=>
 if (cop .neq d e) then
 some (false)
 else
 Zgk k b c (iop .add .i64 a 1)
 else
 some (true)):=by kernel_rfl
theorem Zro (a b:LL):Zto a b =
 (if (cop .neq (List.length a:Int) (List.length b:Int)) then
 some (false)
 else
 Zgk Zw a b 0):=by kernel_rfl
noncomputable def ZvA:Fn:=⟨26,[4],[(4,[(0,.c (.slice 2)),(1,.c (.slice 2)),(5,.c (.int .i64))])],[],0,[],[],Tryz.f111,[.c (.slice 2),.c (.slice 2)],[.c (.bool)],[]⟩
theorem ZxP:ZvA.S.Ok Tryz.prog 111:=ZvA.ok Tryz.func111 (by kernel_rfl) trivial
noncomputable def Zyb (a b:LL):Option (Bool):=ZvA.S.g [.l a,.l b]
noncomputable def ZgE (k:Nat) (a b:LL) (c:Int):Option (Bool):=ZvA.lp [1,0] 0 r0 k [.l a,.l b,.i c]
theorem ZhC (k:Nat) (b c:LL) (a:Int):ZgE (k+1) b c a =
 (if (cop .lss a (List.length b:Int)) then
 Zl b a [.int .i64,.int .i64] fun (d:Int×Int)=>
 Zl c a [.int .i64,.int .i64] fun (e:Int×Int)=>
 if (!((cop .eql d.1 e.1)&&((cop .eql d.2 e.2)&&true))) then
 some (false)
 else
 ZgE k b c (iop .add .i64 a 1)
 else
 some (true)):=by kernel_rfl
theorem Zrh (a b:LL):Zyb a b =
 (if (cop .neq (List.length a:Int) (List.length b:Int)) then
 some (false)
 else
 ZgE Zw a b 0):=by kernel_rfl
noncomputable def Zvu:Fn:=⟨24,[4],[],[],0,[],[],Tryz.f112,[.agg [.int .i64,.slice 1,.slice 1],.agg [.int .i64,.slice 1,.slice 1]],[.c (.bool)],[(110,Zs2.S)]⟩
theorem Zu3:Zvu.S.Ok Tryz.prog 112:=Zvu.ok Tryz.func112 (by kernel_rfl) ⟨ZvH,trivial⟩
noncomputable def ZuR (a:Int) (b c:LL) (d:Int) (e f:LL):Option (Bool):=Zvu.S.g [.i a,.l b,.l c,.i d,.l e,.l f]
theorem Zq3 (a:Int) (b c:LL) (d:Int) (e f:LL):ZuR a b c d e f =
 (if (cop .eql a d) then
 (Zto b e).bind fun g=>
 if g then
 (Zto c f).bind fun h=>
 some (h)
 else
 some (false)
 else
 some (false)):=by kernel_rfl
noncomputable def F18:Fn:=⟨55,[4],[(4,[(0,.c (.slice 15)),(1,.c (.slice 15)),(5,.c (.int .i64))])],[],0,[],[],Tryz.f18,[.c (.slice 15),.c (.slice 15)],[.c (.bool)],[(49,F49.S)]⟩
theorem Zz0:F18.S.Ok Tryz.prog 18:=F18.ok Tryz.func18 (by kernel_rfl) ⟨ZsF,trivial⟩
noncomputable def g18 (a b:LL):Option (Bool):=F18.S.g [.l a,.l b]
noncomputable def ZlM (k:Nat) (a b:LL) (c:Int):Option (Bool):=F18.lp [1,0] 0 r0 k [.l a,.l b,.i c]
theorem Zjx (k:Nat) (d e:LL) (c:Int):ZlM (k+1) d e c =
 (if (cop .lss c (List.length d:Int)) then
 Zl d c hs8 fun (h:Qt13)=>
 Zl e c hs8 fun (i:Qt13)=>
 if (cop .neq h.2.2.2.2.2.2.2.2.2.2.2.1 i.2.2.2.2.2.2.2.2.2.2.2.1) then
 some (false)
 else
 Zl d c hs8 fun (f:Qt13)=>
 Zl e c hs8 fun (g:Qt13)=>
 if (!((cop .eql (d4 (d8 f)).1 (d4 (d8 g)).1)&&((cop .eql (d4 (d8 f)).2.1 (d4 (d8 g)).2.1)&&((cop .eql (d2 (d4 (d8 f))) (d2 (d4 (d8 g))))&&true)))) then
 some (false)
 else
 Zl d c hs8 fun (a:Qt13)=>
 Zl e c hs8 fun (b:Qt13)=>
 (g49 a.1 a.2.1 a.2.2.1 a.2.2.2.1 a.2.2.2.2.1 a.2.2.2.2.2.1 a.2.2.2.2.2.2.1 a.2.2.2.2.2.2.2.1 a.2.2.2.2.2.2.2.2.1 a.2.2.2.2.2.2.2.2.2.1 a.2.2.2.2.2.2.2.2.2.2.1 b.1 b.2.1 b.2.2.1 b.2.2.2.1 b.2.2.2.2.1 b.2.2.2.2.2.1 b.2.2.2.2.2.2.1 b.2.2.2.2.2.2.2.1 b.2.2.2.2.2.2.2.2.1 b.2.2.2.2.2.2.2.2.2.1 b.2.2.2.2.2.2.2.2.2.2.1).bind fun j=>
 if (!j) then
 some (false)
 else
 ZlM k d e (iop .add .i64 c 1)
 else
 some (true)):=by kernel_rfl
theorem Zt7 (a b:LL):g18 a b =
 (if (cop .neq (List.length a:Int) (List.length b:Int)) then
 some (false)
 else
 ZlM Zw a b 0):=by kernel_rfl
noncomputable def F32:Fn:=⟨27,[4],[(4,[(0,.c (.slice 28)),(1,.c (.slice 28)),(5,.c (.int .i64))])],[],0,[],[],Tryz.f32,[.c (.slice 28),.c (.slice 28)],[.c (.bool)],[(64,F64.S)]⟩
theorem ZzR:F32.S.Ok Tryz.prog 32:=F32.ok Tryz.func32 (by kernel_rfl) ⟨ZzO,trivial⟩
noncomputable def g32 (a b:LL):Option (Bool):=F32.S.g [.l a,.l b]
noncomputable def ZlH (k:Nat) (a b:LL) (c:Int):Option (Bool):=F32.lp [1,0] 0 r0 k [.l a,.l b,.i c]
theorem Zj9 (k:Nat) (d e:LL) (c:Int):ZlH (k+1) d e c =
 (if (cop .lss c (List.length d:Int)) then
 Zl d c hs3 fun (a:Qt7)=>
 Zl e c hs3 fun (b:Qt7)=>
 (g64 a.1 a.2.1 a.2.2.1 a.2.2.2.1 a.2.2.2.2.1 a.2.2.2.2.2.1 a.2.2.2.2.2.2.1 a.2.2.2.2.2.2.2.1 a.2.2.2.2.2.2.2.2.1 a.2.2.2.2.2.2.2.2.2.1 a.2.2.2.2.2.2.2.2.2.2.1 a.2.2.2.2.2.2.2.2.2.2.2.1 (d4 (d8 a)).1 (d4 (d8 a)).2.1 (d2 (d4 (d8 a))).1 (d2 (d4 (d8 a))).2.1 (d16 a).1 (d16 a).2.1 (d2 (d16 a)).1 (d2 (d16 a)).2.1 (d4 (d16 a)).1 (d4 (d16 a)).2.1 (d2 (d4 (d16 a))).1 (d2 (d4 (d16 a))).2.1 (d8 (d16 a)).1 (d8 (d16 a)).2.1 (d2 (d8 (d16 a))).1 (d2 (d8 (d16 a))).2 b.1 b.2.1 b.2.2.1 b.2.2.2.1 b.2.2.2.2.1 b.2.2.2.2.2.1 b.2.2.2.2.2.2.1 b.2.2.2.2.2.2.2.1 b.2.2.2.2.2.2.2.2.1 b.2.2.2.2.2.2.2.2.2.1 b.2.2.2.2.2.2.2.2.2.2.1 b.2.2.2.2.2.2.2.2.2.2.2.1 (d4 (d8 b)).1 (d4 (d8 b)).2.1 (d2 (d4 (d8 b))).1 (d2 (d4 (d8 b))).2.1 (d16 b).1 (d16 b).2.1 (d2 (d16 b)).1 (d2 (d16 b)).2.1 (d4 (d16 b)).1 (d4 (d16 b)).2.1 (d2 (d4 (d16 b))).1 (d2 (d4 (d16 b))).2.1 (d8 (d16 b)).1 (d8 (d16 b)).2.1 (d2 (d8 (d16 b))).1 (d2 (d8 (d16 b))).2).bind fun f=>
 if (!f) then
 some (false)
 else
 ZlH k d e (iop .add .i64 c 1)
 else
 some (true)):=by kernel_rfl
theorem ZtN (a b:LL):g32 a b =
 (if (cop .neq (List.length a:Int) (List.length b:Int)) then
 some (false)
 else
 ZlH Zw a b 0):=by kernel_rfl
noncomputable def Zs7:Fn:=⟨26,[4],[(4,[(0,.c (.slice 4)),(1,.c (.slice 4)),(5,.c (.int .i64))])],[],0,[],[],Tryz.f152,[.c (.slice 4),.c (.slice 4)],[.c (.bool)],[]⟩
theorem Zyq:Zs7.S.Ok Tryz.prog 152:=Zs7.ok Tryz.func152 (by kernel_rfl) trivial
noncomputable def Zza (a b:LL):Option (Bool):=Zs7.S.g [.l a,.l b]
noncomputable def Zhi (k:Nat) (a b:LL) (c:Int):Option (Bool):=Zs7.lp [1,0] 0 r0 k [.l a,.l b,.i c]
theorem Zg4 (k:Nat) (b e:LL) (a:Int):Zhi (k+1) b e a =
 (if (cop .lss a (List.length b:Int)) then
 Zl b a [.int .i64,.int .i64,.int .i64,.int .i64] fun (c:Int×Int×Int×Int)=>
 Zl e a [.int .i64,.int .i64,.int .i64,.int .i64] fun (d:Int×Int×Int×Int)=>
 if (!((cop .eql c.1 d.1)&&((cop .eql c.2.1 d.2.1)&&((cop .eql c.2.2.1 d.2.2.1)&&((cop .eql c.2.2.2 d.2.2.2)&&true))))) then
 some (false)
 else
 Zhi k b e (iop .add .i64 a 1)
 else
 some (true)):=by kernel_rfl
theorem Zqp (a b:LL):Zza a b =
 (if (cop .neq (List.length a:Int) (List.length b:Int)) then
 some (false)
 else
 Zhi Zw a b 0):=by kernel_rfl
noncomputable def F34:Fn:=⟨26,[4],[(4,[(0,.c (.slice 2)),(1,.c (.slice 2)),(5,.c (.int .i64))])],[],0,[],[],Tryz.f34,[.c (.slice 2),.c (.slice 2)],[.c (.bool)],[]⟩
theorem Zz2:F34.S.Ok Tryz.prog 34:=F34.ok Tryz.func34 (by kernel_rfl) trivial
noncomputable def g34 (a b:LL):Option (Bool):=F34.S.g [.l a,.l b]
noncomputable def Zlt (k:Nat) (a b:LL) (c:Int):Option (Bool):=F34.lp [1,0] 0 r0 k [.l a,.l b,.i c]
theorem Zjy (k:Nat) (b c:LL) (a:Int):Zlt (k+1) b c a =
 (if (cop .lss a (List.length b:Int)) then
 Zl b a [.int .i64,.int .i64] fun (d:Int×Int)=>
 Zl c a [.int .i64,.int .i64] fun (e:Int×Int)=>
 if (!((cop .eql d.1 e.1)&&((cop .eql d.2 e.2)&&true))) then
 some (false)
 else
 Zlt k b c (iop .add .i64 a 1)
 else
 some (true)):=by kernel_rfl
theorem Zuu (a b:LL):g34 a b =
 (if (cop .neq (List.length a:Int) (List.length b:Int)) then
 some (false)
 else
 Zlt Zw a b 0):=by kernel_rfl
noncomputable def Zvf:Fn:=⟨55,[4],[(4,[(0,.c (.slice 13)),(1,.c (.slice 13)),(5,.c (.int .i64))])],[],0,[],[],Tryz.f153,[.c (.slice 13),.c (.slice 13)],[.c (.bool)],[(49,F49.S)]⟩
theorem Zyv:Zvf.S.Ok Tryz.prog 153:=Zvf.ok Tryz.func153 (by kernel_rfl) ⟨ZsF,trivial⟩
noncomputable def ZyX (a b:LL):Option (Bool):=Zvf.S.g [.l a,.l b]
noncomputable def Zgn (k:Nat) (a b:LL) (c:Int):Option (Bool):=Zvf.lp [1,0] 0 r0 k [.l a,.l b,.i c]
theorem ZgD (k:Nat) (d e:LL) (c:Int):Zgn (k+1) d e c =
 (if (cop .lss c (List.length d:Int)) then
 Zl d c hs9 fun (f:Qt14)=>
 Zl e c hs9 fun (g:Qt14)=>
 if (cop .neq f.1 g.1) then
 some (false)
 else
 Zl d c hs9 fun (h:Qt14)=>
 Zl e c hs9 fun (i:Qt14)=>
 if (cop .neq h.2.1 i.2.1) then
 some (false)
 else
 Zl d c hs9 fun (a:Qt14)=>
 Zl e c hs9 fun (b:Qt14)=>
 (g49 a.2.2.1 a.2.2.2.1 a.2.2.2.2.1 a.2.2.2.2.2.1 a.2.2.2.2.2.2.1 a.2.2.2.2.2.2.2.1 a.2.2.2.2.2.2.2.2.1 a.2.2.2.2.2.2.2.2.2.1 a.2.2.2.2.2.2.2.2.2.2.1 a.2.2.2.2.2.2.2.2.2.2.2.1 (d4 (d8 a)) b.2.2.1 b.2.2.2.1 b.2.2.2.2.1 b.2.2.2.2.2.1 b.2.2.2.2.2.2.1 b.2.2.2.2.2.2.2.1 b.2.2.2.2.2.2.2.2.1 b.2.2.2.2.2.2.2.2.2.1 b.2.2.2.2.2.2.2.2.2.2.1 b.2.2.2.2.2.2.2.2.2.2.2.1 (d4 (d8 b))).bind fun j=>
 if (!j) then
 some (false)
 else
 Zgn k d e (iop .add .i64 c 1)
 else
 some (true)):=by kernel_rfl
theorem Zq4 (a b:LL):ZyX a b =
 (if (cop .neq (List.length a:Int) (List.length b:Int)) then
 some (false)
 else
 Zgn Zw a b 0):=by kernel_rfl
noncomputable def Ztg:Fn:=⟨45,[4],[],[],0,[],[],Tryz.f113,[.agg hs19,.agg hs19],[.c (.bool)],[(18,F18.S),(32,F32.S),(152,Zs7.S),(34,F34.S),(153,Zvf.S),(83,F83.S)]⟩
theorem Zuh:Ztg.S.Ok Tryz.prog 113:=Ztg.ok Tryz.func113 (by kernel_rfl) ⟨Zz0,⟨ZzR,⟨Zyq,⟨Zz2,⟨Zyv,⟨ZxH,trivial⟩⟩⟩⟩⟩⟩
noncomputable def Ztx (a b c d e f h i j k m n:LL):Option (Bool):=Ztg.S.g [.l a,.l b,.l c,.l d,.l e,.l f,.l h,.l i,.l j,.l k,.l m,.l n]
theorem Zq5 (a b c d e f g h i j k l:LL):Ztx a b c d e f g h i j k l =
 ((g18 a g).bind fun m=>
 if m then
 (g32 b h).bind fun n=>
 if n then
 (Zza c i).bind fun o=>
 if o then
 (g34 d j).bind fun p=>
 if p then
 (ZyX e k).bind fun q=>
 if q then
 (g83 f l).bind fun r=>
 some (r)
 else
 some (false)
 else
 some (false)
 else
 some (false)
 else
 some (false)
 else
 some (false)):=by kernel_rfl
noncomputable def Zwa:Fn:=⟨45,[4],[],[],0,[],[],Tryz.f114,[.agg hs4,.agg hs4],[.c (.bool)],[(112,Zvu.S),(113,Ztg.S)]⟩
theorem ZxX:Zwa.S.Ok Tryz.prog 114:=Zwa.ok Tryz.func114 (by kernel_rfl) ⟨Zu3,⟨Zuh,trivial⟩⟩
noncomputable def ZzB (a c:Int) (d e f h j k m n:LL) (o:Bool) (p:Int) (q r s t u v w x:LL) (y z:Int) (A C D E G H J K:LL) (L:Bool) (M:Int) (N O P Q R T U V:LL):Option (Bool):=Zwa.S.g [.i a,.i c,.l d,.l e,.l f,.l h,.l j,.l k,.l m,.l n,.b o,.i p,.l q,.l r,.l s,.l t,.l u,.l v,.l w,.l x,.i y,.i z,.l A,.l C,.l D,.l E,.l G,.l H,.l J,.l K,.b L,.i M,.l N,.l O,.l P,.l Q,.l R,.l T,.l U,.l V]
theorem Zsm (a b:Int) (c d e f g h i j:LL) (k:Bool) (l:Int) (m n o p q r s t:LL) (u v:Int) (w x y z A C D E:LL) (G:Bool) (H:Int) (J K L M N O P Q:LL):ZzB a b c d e f g h i j k l m n o p q r s t u v w x y z A C D E G H J K L M N O P Q =
 (if (cop .eql a u) then
 (ZuR b c d v w x).bind fun R=>
 if R then
 (Ztx e f g h i j y z A C D E).bind fun T=>
 if T then
 if (k == G) then
 (ZuR l m n H J K).bind fun U=>
 if U then
 (Ztx o p q r s t L M N O P Q).bind fun V=>
 some (V)
 else
 some (false)
 else
 some (false)
 else
 some (false)
 else
 some (false)
 else
 some (false)):=by kernel_rfl
noncomputable def F65:Fn:=⟨134,[4],[],[],0,[],[],Tryz.f65,[.agg hs0,.agg hs0],[.c (.bool)],[(64,F64.S),(83,F83.S),(109,ZvG.S),(110,Zs2.S),(111,ZvA.S),(112,Zvu.S),(113,Ztg.S),(114,Zwa.S)]⟩
theorem Zz4:F65.S.Ok Tryz.prog 65:=F65.ok Tryz.func65 (by kernel_rfl) ⟨ZzO,⟨ZxH,⟨Zy2,⟨ZvH,⟨ZxP,⟨Zu3,⟨Zuh,⟨ZxX,trivial⟩⟩⟩⟩⟩⟩⟩⟩
noncomputable def g65 (a c d e f h j k m n o:Int) (p:Bool) (q r s t u v w x y z A C D E G H J K L M:Int) (N:LL) (O P Q R T U:Int) (V:Bool) (W X Y Z:LL) (aa ab:Int) (ac ad ae af ag ah ai aj:LL) (ak al:Int) (am an ao ap aq ar aZ au:LL) (av:Bool) (aw:Int) (ax ay az a0 a1 a2 a3 a4:LL) (a5 a6 a7 a8 a9 ba bb bc bd be bf:Int) (bg:Bool) (bh bi bj bk bl bm bn bo bp bq br bs bt bu bv bw bx bz b0 b1:Int) (b2:LL) (b3 b4 b5 b6 b7 b8:Int) (b9:Bool) (ca cb cc cd:LL) (ce cf:Int) (cg ch ci cj ck cl cm cn:LL) (co cp:Int) (cq cr cs ct cu cv cw cx:LL) (cy:Bool) (cz:Int) (c0 c1 c2 c3 c4 c5 c6 c7:LL):Option (Bool):=F65.S.g [.i a,.i c,.i d,.i e,.i f,.i h,.i j,.i k,.i m,.i n,.i o,.b p,.i q,.i r,.i s,.i t,.i u,.i v,.i w,.i x,.i y,.i z,.i A,.i C,.i D,.i E,.i G,.i H,.i J,.i K,.i L,.i M,.l N,.i O,.i P,.i Q,.i R,.i T,.i U,.b V,.l W,.l X,.l Y,.l Z,.i aa,.i ab,.l ac,.l ad,.l ae,.l af,.l ag,.l ah,.l ai,.l aj,.i ak,.i al,.l am,.l an,.l ao,.l ap,.l aq,.l ar,.l aZ,.l au,.b av,.i aw,.l ax,.l ay,.l az,.l a0,.l a1,.l a2,.l a3,.l a4,.i a5,.i a6,.i a7,.i a8,.i a9,.i ba,.i bb,.i bc,.i bd,.i be,.i bf,.b bg,.i bh,.i bi,.i bj,.i bk,.i bl,.i bm,.i bn,.i bo,.i bp,.i bq,.i br,.i bs,.i bt,.i bu,.i bv,.i bw,.i bx,.i bz,.i b0,.i b1,.l b2,.i b3,.i b4,.i b5,.i b6,.i b7,.i b8,.b b9,.l ca,.l cb,.l cc,.l cd,.i ce,.i cf,.l cg,.l ch,.l ci,.l cj,.l ck,.l cl,.l cm,.l cn,.i co,.i cp,.l cq,.l cr,.l cs,.l ct,.l cu,.l cv,.l cw,.l cx,.b cy,.i cz,.l c0,.l c1,.l c2,.l c3,.l c4,.l c5,.l c6,.l c7]
theorem ZvF (a b c d e f g h i j k:Int) (l:Bool) (m n o p q r s t u v w x y z A C D E G H:Int) (J:LL) (K L M N O P:Int) (Q:Bool) (R T U V:LL) (W X:Int) (Y Z aa ab ac ad ae af:LL) (ag ah:Int) (ai aj ak al am an ao ap:LL) (aq:Bool) (ar:Int) (aZ au av aw ax ay az a0:LL) (a1 a2 a3 a4 a5 a6 a7 a8 a9 ba bb:Int) (bc:Bool) (bd be bf bg bh bi bj bk bl bm bn bo bp bq br bs bt bu bv bw:Int) (bx:LL) (bz b0 b1 b2 b3 b4:Int) (b5:Bool) (b6 b7 b8 b9:LL) (ca cb:Int) (cc cd ce cf cg ch ci cj:LL) (ck cl:Int) (cm cn co cp cq cr cs ct:LL) (cu:Bool) (cv:Int) (cw cx cy cz c0 c1 c2 c3:LL):g65 a b c d e f g h i j k l m n o p q r s t u v w x y z A C D E G H J K L M N O P Q R T U V W X Y Z aa ab ac ad ae af ag ah ai aj ak al am an ao ap aq ar aZ au av aw ax ay az a0 a1 a2 a3 a4 a5 a6 a7 a8 a9 ba bb bc bd be bf bg bh bi bj bk bl bm bn bo bp bq br bs bt bu bv bw bx bz b0 b1 b2 b3 b4 b5 b6 b7 b8 b9 ca cb cc cd ce cf cg ch ci cj ck cl cm cn co cp cq cr cs ct cu cv cw cx cy cz c0 c1 c2 c3 =
 (if (cop .neq a a1) then
 some (false)
 else
 if (cop .neq b a2) then
 some (false)
 else
 if (cop .neq c a3) then
 some (false)
 else
 if (cop .neq d a4) then
 some (false)
 else
 if (cop .neq e a5) then
 some (false)
 else
 if (cop .neq f a6) then
 some (false)
 else
 if (cop .neq g a7) then
 some (false)
 else
 if (!((cop .eql h a8)&&((cop .eql i a9)&&((cop .eql j ba)&&true)))) then
 some (false)
 else
 if (cop .neq k bb) then
 some (false)
 else
 if (!(l == bc)) then
 some (false)
 else
 if (cop .neq W ca) then
 some (false)
 else
 (g64 m n o p q r s t u v w x y z A C D E G H J K L M N O P Q bd be bf bg bh bi bj bk bl bm bn bo bp bq br bs bt bu bv bw bx bz b0 b1 b2 b3 b4 b5).bind fun c4=>
 if c4 then
 (g83 R b6).bind fun c5=>
 if c5 then
 (Zxv T b7).bind fun c6=>
 if c6 then
 (Zto U b8).bind fun c7=>
 if c7 then
 (Zyb V b9).bind fun c8=>
 if c8 then
 (ZuR X Y Z cb cc cd).bind fun c9=>
 if c9 then
 (Ztx aa ab ac ad ae af ce cf cg ch ci cj).bind fun da=>
 if da then
 (ZzB ag ah ai aj ak al am an ao ap aq ar aZ au av aw ax ay az a0 ck cl cm cn co cp cq cr cs ct cu cv cw cx cy cz c0 c1 c2 c3).bind fun db=>
 some (db)
 else
 some (false)
 else
 some (false)
 else
 some (false)
 else
 some (false)
 else
 some (false)
 else
 some (false)
 else
 some (false)):=by kernel_rfl
noncomputable def F60:Fn:=⟨295,[2],[(60,[(1,.box hs0),(3,.box hs0),(4,.c (.bool)),(5,.c (.int .i64))])],[],0,[],[],Tryz.f60,[.agg hs0],[.c (.bool)],[(95,F95.S),(96,F96.S),(97,F97.S),(93,F93.S),(106,ZrM.S),(65,F65.S),(98,F98.S),(99,F99.S),(100,ZsK.S),(101,ZuT.S),(102,Zv9.S),(103,Zp6.S),(104,ZoJ.S),(105,ZvS.S)]⟩
theorem ZBq:F60.S.Ok Tryz.prog 60:=F60.ok Tryz.func60 (by kernel_rfl) ⟨ZzQ,⟨ZsB,⟨ZAf,⟨ZsP,⟨Zpk,⟨Zz4,⟨Zyu,⟨ZzL,⟨ZtL,⟨Zy3,⟨Zy4,⟨Zuc,⟨ZuH,⟨Zzp,trivial⟩⟩⟩⟩⟩⟩⟩⟩⟩⟩⟩⟩⟩⟩
noncomputable def g60 (a c d e f h j k m n o:Int) (p:Bool) (q r s t u v w x y z A C D E G H J K L M:Int) (N:LL) (O P Q R T U:Int) (V:Bool) (W X Y Z:LL) (aa ab:Int) (ac ad ae af ag ah ai aj:LL) (ak al:Int) (am an ao ap aq ar aZ au:LL) (av:Bool) (aw:Int) (ax ay az a0 a1 a2 a3 a4:LL):Option (Bool):=F60.S.g [.i a,.i c,.i d,.i e,.i f,.i h,.i j,.i k,.i m,.i n,.i o,.b p,.i q,.i r,.i s,.i t,.i u,.i v,.i w,.i x,.i y,.i z,.i A,.i C,.i D,.i E,.i G,.i H,.i J,.i K,.i L,.i M,.l N,.i O,.i P,.i Q,.i R,.i T,.i U,.b V,.l W,.l X,.l Y,.l Z,.i aa,.i ab,.l ac,.l ad,.l ae,.l af,.l ag,.l ah,.l ai,.l aj,.i ak,.i al,.l am,.l an,.l ao,.l ap,.l aq,.l ar,.l aZ,.l au,.b av,.i aw,.l ax,.l ay,.l az,.l a0,.l a1,.l a2,.l a3,.l a4]
noncomputable def Ys (k:Nat) (a c d e f g h j m n o:Int) (p:Bool) (q r s t u v w x y z A C D E G H J K L M:Int) (N:LL) (O P Q R T U:Int) (V:Bool) (W X Y Z:LL) (aa ab:Int) (ac ad ae af ag ah ai aj:LL) (ak al:Int) (am an ao ap aq ar aZ au:LL) (av:Bool) (aw:Int) (ax ay az a0 a1 a2 a3 a4:LL) (a5 a6 a7 a8 a9 ba bb bc bd be bf:Int) (bg:Bool) (bh bi bj bk bl bm bn bo bp bq br bs bt bu bv bw bx bz b0 b1:Int) (b2:LL) (b3 b4 b5 b6 b7 b8:Int) (b9:Bool) (ca cb cc cd:LL) (ce cf:Int) (cg ch ci cj ck cl cm cn:LL) (co cp:Int) (cq cr cs ct cu cv cw cx:LL) (cy:Bool) (cz:Int) (c0 c1 c2 c3 c4 c5 c6 c7:LL) (c8:Bool) (c9:Int):Option (Bool):=F60.lp [1,1,0,1,0,1,0,1,0,2] 0 r0 k [.i a,.i c,.i d,.i e,.i f,.i g,.i h,.i j,.i m,.i n,.i o,.b p,.i q,.i r,.i s,.i t,.i u,.i v,.i w,.i x,.i y,.i z,.i A,.i C,.i D,.i E,.i G,.i H,.i J,.i K,.i L,.i M,.l N,.i O,.i P,.i Q,.i R,.i T,.i U,.b V,.l W,.l X,.l Y,.l Z,.i aa,.i ab,.l ac,.l ad,.l ae,.l af,.l ag,.l ah,.l ai,.l aj,.i ak,.i al,.l am,.l an,.l ao,.l ap,.l aq,.l ar,.l aZ,.l au,.b av,.i aw,.l ax,.l ay,.l az,.l a0,.l a1,.l a2,.l a3,.l a4,.i a5,.i a6,.i a7,.i a8,.i a9,.i ba,.i bb,.i bc,.i bd,.i be,.i bf,.b bg,.i bh,.i bi,.i bj,.i bk,.i bl,.i bm,.i bn,.i bo,.i bp,.i bq,.i br,.i bs,.i bt,.i bu,.i bv,.i bw,.i bx,.i bz,.i b0,.i b1,.l b2,.i b3,.i b4,.i b5,.i b6,.i b7,.i b8,.b b9,.l ca,.l cb,.l cc,.l cd,.i ce,.i cf,.l cg,.l ch,.l ci,.l cj,.l ck,.l cl,.l cm,.l cn,.i co,.i cp,.l cq,.l cr,.l cs,.l ct,.l cu,.l cv,.l cw,.l cx,.b cy,.i cz,.l c0,.l c1,.l c2,.l c3,.l c4,.l c5,.l c6,.l c7,.b c8,.i c9]
theorem Zjg (k:Nat) (d e f g h b i j l m n:Int) (o:Bool) (p q r s t u v w x y z A C D E G H J K L:Int) (M:LL) (N O P Q R T:Int) (U:Bool) (V c W X:LL) (Y Z:Int) (aa ab ac ad ae af ag ah:LL) (ai aj:Int) (ak al am an ao ap aq ar:LL) (aZ:Bool) (au:Int) (av aw ax ay az a0 a1 a2:LL) (a3 a4 a5 a6 a7 a8 a9 ba bb bc bd:Int) (be:Bool) (bf bg bh bi bj bk bl bm bn bo bp bq br bs bt bu bv bw bx bz:Int) (b0:LL) (b1 b2 b3 b4 b5 b6:Int) (b7:Bool) (b8 b9 ca cb:LL) (cc cd:Int) (ce cf cg ch ci cj ck cl:LL) (cm cn:Int) (co cp cq cr cs ct cu cv:LL) (cw:Bool) (cx:Int) (cy cz c0 c1 c2 c3 c4 c5:LL) (c6:Bool) (c7:Int):Ys (k+1) d e f g h b i j l m n o p q r s t u v w x y z A C D E G H J K L M N O P Q R T U V c W X Y Z aa ab ac ad ae af ag ah ai aj ak al am an ao ap aq ar aZ au av aw ax ay az a0 a1 a2 a3 a4 a5 a6 a7 a8 a9 ba bb bc bd be bf bg bh bi bj bk bl bm bn bo bp bq br bs bt bu bv bw bx bz b0 b1 b2 b3 b4 b5 b6 b7 b8 b9 ca cb cc cd ce cf cg ch ci cj ck cl cm cn co cp cq cr cs ct cu cv cw cx cy cz c0 c1 c2 c3 c4 c5 c6 c7 =
 (if (cop .lss c7 (List.length c:Int)) then
 if c6 then
 Zl c c7 hs10 fun (a:Qt20)=>
 (g93 a.1 a.2.1 a.2.2.1 a.2.2.2.1 a.2.2.2.2.1 a.2.2.2.2.2.1 a.2.2.2.2.2.2.1 a.2.2.2.2.2.2.2.1 a.2.2.2.2.2.2.2.2.1 a.2.2.2.2.2.2.2.2.2.1 a.2.2.2.2.2.2.2.2.2.2).bind fun c9=>
 Ys k d e f g h b i j l m n o p q r s t u v w x y z A C D E G H J K L M N O P Q R T U V c W X Y Z aa ab ac ad ae af ag ah ai aj ak al am an ao ap aq ar aZ au av aw ax ay az a0 a1 a2 a3 a4 a5 a6 a7 a8 a9 ba bb bc bd be bf bg bh bi bj bk bl bm bn bo bp bq br bs bt bu bv bw bx bz b0 b1 b2 b3 b4 b5 b6 b7 b8 b9 ca cb cc cd ce cf cg ch ci cj ck cl cm cn co cp cq cr cs ct cu cv cw cx cy cz c0 c1 c2 c3 c4 c5 c9 (iop .add .i64 c7 1)
 else
 if c6 then
 (ZqO b).bind fun a=>
 if a then
 (g65 d e f g h b i j l m n o p q r s t u v w x y z A C D E G H J K L M N O P Q R T U V c W X Y Z aa ab ac ad ae af ag ah ai aj ak al am an ao ap aq ar aZ au av aw ax ay az a0 a1 a2 a3 a4 a5 a6 a7 a8 a9 ba bb bc bd be bf bg bh bi bj bk bl bm bn bo bp bq br bs bt bu bv bw bx bz b0 b1 b2 b3 b4 b5 b6 b7 b8 b9 ca cb cc cd ce cf cg ch ci cj ck cl cm cn co cp cq cr cs ct cu cv cw cx cy cz c0 c1 c2 c3 c4 c5).bind fun c8=>
 some (c8)
 else
 some (false)
 else
 some (false)
 else
 if c6 then
 (ZqO b).bind fun a=>
 if a then
 (g65 d e f g h b i j l m n o p q r s t u v w x y z A C D E G H J K L M N O P Q R T U V c W X Y Z aa ab ac ad ae af ag ah ai aj ak al am an ao ap aq ar aZ au av aw ax ay az a0 a1 a2 a3 a4 a5 a6 a7 a8 a9 ba bb bc bd be bf bg bh bi bj bk bl bm bn bo bp bq br bs bt bu bv bw bx bz b0 b1 b2 b3 b4 b5 b6 b7 b8 b9 ca cb cc cd ce cf cg ch ci cj ck cl cm cn co cp cq cr cs ct cu cv cw cx cy cz c0 c1 c2 c3 c4 c5).bind fun c8=>
 some (c8)
 else
 some (false)
 else
 some (false)):=by kernel_rfl
theorem Yk (a b c d h i m e f g l:Int) (y:Bool) (Y Z aa ab ac ad ae af ag ah ai aj ak al am an ao ap aq ar:Int) (aZ:LL) (au av aw ax ay az:Int) (a0:Bool) (x k j z:LL) (n o:Int) (p q r s t u v w:LL) (A C:Int) (D E G H J K L M:LL) (N:Bool) (O:Int) (P Q R T U V W X:LL):g60 a b c d h i m e f g l y Y Z aa ab ac ad ae af ag ah ai aj ak al am an ao ap aq ar aZ au av aw ax ay az a0 x k j z n o p q r s t u v w A C D E G H J K L M N O P Q R T U V W X =
 (if (cop .lss a 1) then
 some (false)
 else
 if (cop .gtr a 17) then
 some (false)
 else
 (g95 b).bind fun a3=>
 if (!a3) then
 some (false)
 else
 (g96 c).bind fun a4=>
 if (!a4) then
 some (false)
 else
 (g96 d).bind fun a5=>
 if (!a5) then
 some (false)
 else
 if (cop .eql a 1) then
 (g97 Y Z aa ab ac ad ae af ag ah ai aj ak al am an ao ap aq ar aZ au av aw ax ay az a0).bind fun a1=>
 Ys Zw a b c d h i m e f g l y Y Z aa ab ac ad ae af ag ah ai aj ak al am an ao ap aq ar aZ au av aw ax ay az a0 x k j z n o p q r s t u v w A C D E G H J K L M N O P Q R T U V W X a b c d 0 i 0 0 0 0 0 false Y Z aa ab ac ad ae af ag ah ai aj ak al am an ao ap aq ar aZ au av aw ax ay az a0 E0 E0 E0 E0 0 0 E0 E0 E0 E0 E0 E0 E0 E0 0 0 E0 E0 E0 E0 E0 E0 E0 E0 false 0 E0 E0 E0 E0 E0 E0 E0 E0 a1 0
 else
 if (cop .eql a 2) then
 (g98 e f g).bind fun a1=>
 if a1 then
 (g99 l).bind fun a2=>
 if a2 then
 Ys Zw a b c d h i m e f g l y Y Z aa ab ac ad ae af ag ah ai aj ak al am an ao ap aq ar aZ au av aw ax ay az a0 x k j z n o p q r s t u v w A C D E G H J K L M N O P Q R T U V W X a b c d 0 i 0 e f g l y 0 0 0 0 0 0 0 0 0 0 0 0 0 0 0 0 0 0 0 0 E0 0 0 0 0 0 0 false E0 k E0 E0 0 0 E0 E0 E0 E0 E0 E0 E0 E0 0 0 E0 E0 E0 E0 E0 E0 E0 E0 false 0 E0 E0 E0 E0 E0 E0 E0 E0 (cop .leq (List.length k:Int) 8) 0
 else
 Ys Zw a b c d h i m e f g l y Y Z aa ab ac ad ae af ag ah ai aj ak al am an ao ap aq ar aZ au av aw ax ay az a0 x k j z n o p q r s t u v w A C D E G H J K L M N O P Q R T U V W X a b c d 0 i 0 e f g l y 0 0 0 0 0 0 0 0 0 0 0 0 0 0 0 0 0 0 0 0 E0 0 0 0 0 0 0 false E0 k E0 E0 0 0 E0 E0 E0 E0 E0 E0 E0 E0 0 0 E0 E0 E0 E0 E0 E0 E0 E0 false 0 E0 E0 E0 E0 E0 E0 E0 E0 false 0
 else
 Ys Zw a b c d h i m e f g l y Y Z aa ab ac ad ae af ag ah ai aj ak al am an ao ap aq ar aZ au av aw ax ay az a0 x k j z n o p q r s t u v w A C D E G H J K L M N O P Q R T U V W X a b c d 0 i 0 e f g l y 0 0 0 0 0 0 0 0 0 0 0 0 0 0 0 0 0 0 0 0 E0 0 0 0 0 0 0 false E0 k E0 E0 0 0 E0 E0 E0 E0 E0 E0 E0 E0 0 0 E0 E0 E0 E0 E0 E0 E0 E0 false 0 E0 E0 E0 E0 E0 E0 E0 E0 false 0
 else
 if (cop .eql a 4) then
 (g98 e f g).bind fun a1=>
 if a1 then
 if (cop .geq m 0) then
 if (cop .lss m 64) then
 Ys Zw a b c d h i m e f g l y Y Z aa ab ac ad ae af ag ah ai aj ak al am an ao ap aq ar aZ au av aw ax ay az a0 x k j z n o p q r s t u v w A C D E G H J K L M N O P Q R T U V W X a b c d 0 i m e f g 0 false 0 0 0 0 0 0 0 0 0 0 0 0 0 0 0 0 0 0 0 0 E0 0 0 0 0 0 0 false E0 k E0 E0 0 0 E0 E0 E0 E0 E0 E0 E0 E0 0 0 E0 E0 E0 E0 E0 E0 E0 E0 false 0 E0 E0 E0 E0 E0 E0 E0 E0 (cop .eql (List.length k:Int) 1) 0
 else
 Ys Zw a b c d h i m e f g l y Y Z aa ab ac ad ae af ag ah ai aj ak al am an ao ap aq ar aZ au av aw ax ay az a0 x k j z n o p q r s t u v w A C D E G H J K L M N O P Q R T U V W X a b c d 0 i m e f g 0 false 0 0 0 0 0 0 0 0 0 0 0 0 0 0 0 0 0 0 0 0 E0 0 0 0 0 0 0 false E0 k E0 E0 0 0 E0 E0 E0 E0 E0 E0 E0 E0 0 0 E0 E0 E0 E0 E0 E0 E0 E0 false 0 E0 E0 E0 E0 E0 E0 E0 E0 false 0
 else
 Ys Zw a b c d h i m e f g l y Y Z aa ab ac ad ae af ag ah ai aj ak al am an ao ap aq ar aZ au av aw ax ay az a0 x k j z n o p q r s t u v w A C D E G H J K L M N O P Q R T U V W X a b c d 0 i m e f g 0 false 0 0 0 0 0 0 0 0 0 0 0 0 0 0 0 0 0 0 0 0 E0 0 0 0 0 0 0 false E0 k E0 E0 0 0 E0 E0 E0 E0 E0 E0 E0 E0 0 0 E0 E0 E0 E0 E0 E0 E0 E0 false 0 E0 E0 E0 E0 E0 E0 E0 E0 false 0
 else
 Ys Zw a b c d h i m e f g l y Y Z aa ab ac ad ae af ag ah ai aj ak al am an ao ap aq ar aZ au av aw ax ay az a0 x k j z n o p q r s t u v w A C D E G H J K L M N O P Q R T U V W X a b c d 0 i m e f g 0 false 0 0 0 0 0 0 0 0 0 0 0 0 0 0 0 0 0 0 0 0 E0 0 0 0 0 0 0 false E0 k E0 E0 0 0 E0 E0 E0 E0 E0 E0 E0 E0 0 0 E0 E0 E0 E0 E0 E0 E0 E0 false 0 E0 E0 E0 E0 E0 E0 E0 E0 false 0
 else
 if (cop .eql a 5) then
 (g98 e f g).bind fun a1=>
 if a1 then
 (g99 l).bind fun a2=>
 Ys Zw a b c d h i m e f g l y Y Z aa ab ac ad ae af ag ah ai aj ak al am an ao ap aq ar aZ au av aw ax ay az a0 x k j z n o p q r s t u v w A C D E G H J K L M N O P Q R T U V W X a b c d 0 i 0 e f g l false 0 0 0 0 0 0 0 0 0 0 0 0 0 0 0 0 0 0 0 0 E0 0 0 0 0 0 0 false E0 E0 E0 E0 0 0 E0 E0 E0 E0 E0 E0 E0 E0 0 0 E0 E0 E0 E0 E0 E0 E0 E0 false 0 E0 E0 E0 E0 E0 E0 E0 E0 a2 0
 else
 Ys Zw a b c d h i m e f g l y Y Z aa ab ac ad ae af ag ah ai aj ak al am an ao ap aq ar aZ au av aw ax ay az a0 x k j z n o p q r s t u v w A C D E G H J K L M N O P Q R T U V W X a b c d 0 i 0 e f g l false 0 0 0 0 0 0 0 0 0 0 0 0 0 0 0 0 0 0 0 0 E0 0 0 0 0 0 0 false E0 E0 E0 E0 0 0 E0 E0 E0 E0 E0 E0 E0 E0 0 0 E0 E0 E0 E0 E0 E0 E0 E0 false 0 E0 E0 E0 E0 E0 E0 E0 E0 false 0
 else
 if (cop .eql a 6) then
 (g98 e f g).bind fun a1=>
 if a1 then
 (ZwQ x false).bind fun a2=>
 if a2 then
 Ys Zw a b c d h i m e f g l y Y Z aa ab ac ad ae af ag ah ai aj ak al am an ao ap aq ar aZ au av aw ax ay az a0 x k j z n o p q r s t u v w A C D E G H J K L M N O P Q R T U V W X a b c d 0 i 0 e f g 0 false 0 0 0 0 0 0 0 0 0 0 0 0 0 0 0 0 0 0 0 0 E0 0 0 0 0 0 0 false x E0 E0 E0 0 0 E0 E0 E0 E0 E0 E0 E0 E0 0 0 E0 E0 E0 E0 E0 E0 E0 E0 false 0 E0 E0 E0 E0 E0 E0 E0 E0 (cop .leq (List.length x:Int) 64) 0
 else
 Ys Zw a b c d h i m e f g l y Y Z aa ab ac ad ae af ag ah ai aj ak al am an ao ap aq ar aZ au av aw ax ay az a0 x k j z n o p q r s t u v w A C D E G H J K L M N O P Q R T U V W X a b c d 0 i 0 e f g 0 false 0 0 0 0 0 0 0 0 0 0 0 0 0 0 0 0 0 0 0 0 E0 0 0 0 0 0 0 false x E0 E0 E0 0 0 E0 E0 E0 E0 E0 E0 E0 E0 0 0 E0 E0 E0 E0 E0 E0 E0 E0 false 0 E0 E0 E0 E0 E0 E0 E0 E0 false 0
 else
 Ys Zw a b c d h i m e f g l y Y Z aa ab ac ad ae af ag ah ai aj ak al am an ao ap aq ar aZ au av aw ax ay az a0 x k j z n o p q r s t u v w A C D E G H J K L M N O P Q R T U V W X a b c d 0 i 0 e f g 0 false 0 0 0 0 0 0 0 0 0 0 0 0 0 0 0 0 0 0 0 0 E0 0 0 0 0 0 0 false x E0 E0 E0 0 0 E0 E0 E0 E0 E0 E0 E0 E0 0 0 E0 E0 E0 E0 E0 E0 E0 E0 false 0 E0 E0 E0 E0 E0 E0 E0 E0 false 0
 else
 if (cop .eql a 12) then
 (g95 h).bind fun a1=>
 if a1 then
 (Zuw j).bind fun a2=>
 Ys Zw a b c d h i m e f g l y Y Z aa ab ac ad ae af ag ah ai aj ak al am an ao ap aq ar aZ au av aw ax ay az a0 x k j z n o p q r s t u v w A C D E G H J K L M N O P Q R T U V W X a b c d h 0 0 0 0 0 0 false 0 0 0 0 0 0 0 0 0 0 0 0 0 0 0 0 0 0 0 0 E0 0 0 0 0 0 0 false E0 E0 j E0 0 0 E0 E0 E0 E0 E0 E0 E0 E0 0 0 E0 E0 E0 E0 E0 E0 E0 E0 false 0 E0 E0 E0 E0 E0 E0 E0 E0 a2 0
 else
 Ys Zw a b c d h i m e f g l y Y Z aa ab ac ad ae af ag ah ai aj ak al am an ao ap aq ar aZ au av aw ax ay az a0 x k j z n o p q r s t u v w A C D E G H J K L M N O P Q R T U V W X a b c d h 0 0 0 0 0 0 false 0 0 0 0 0 0 0 0 0 0 0 0 0 0 0 0 0 0 0 0 E0 0 0 0 0 0 0 false E0 E0 j E0 0 0 E0 E0 E0 E0 E0 E0 E0 E0 0 0 E0 E0 E0 E0 E0 E0 E0 E0 false 0 E0 E0 E0 E0 E0 E0 E0 E0 false 0
 else
 if (cop .eql a 13) then
 (g95 h).bind fun a1=>
 if a1 then
 (Zzv A C D E G H J K L M N O P Q R T U V W X).bind fun a2=>
 Ys Zw a b c d h i m e f g l y Y Z aa ab ac ad ae af ag ah ai aj ak al am an ao ap aq ar aZ au av aw ax ay az a0 x k j z n o p q r s t u v w A C D E G H J K L M N O P Q R T U V W X a b c d h 0 0 0 0 0 0 false 0 0 0 0 0 0 0 0 0 0 0 0 0 0 0 0 0 0 0 0 E0 0 0 0 0 0 0 false E0 E0 E0 E0 0 0 E0 E0 E0 E0 E0 E0 E0 E0 A C D E G H J K L M N O P Q R T U V W X a2 0
 else
 Ys Zw a b c d h i m e f g l y Y Z aa ab ac ad ae af ag ah ai aj ak al am an ao ap aq ar aZ au av aw ax ay az a0 x k j z n o p q r s t u v w A C D E G H J K L M N O P Q R T U V W X a b c d h 0 0 0 0 0 0 false 0 0 0 0 0 0 0 0 0 0 0 0 0 0 0 0 0 0 0 0 E0 0 0 0 0 0 0 false E0 E0 E0 E0 0 0 E0 E0 E0 E0 E0 E0 E0 E0 A C D E G H J K L M N O P Q R T U V W X false 0
 else
 if (cop .eql a 14) then
 (g95 h).bind fun a1=>
 if a1 then
 (g95 n).bind fun a2=>
 if a2 then
 (Zuw j).bind fun a6=>
 if a6 then
 (ZtK o p q).bind fun a7=>
 if a7 then
 (Zvh r s t u v w).bind fun a8=>
 Ys Zw a b c d h i m e f g l y Y Z aa ab ac ad ae af ag ah ai aj ak al am an ao ap aq ar aZ au av aw ax ay az a0 x k j z n o p q r s t u v w A C D E G H J K L M N O P Q R T U V W X a b c d h 0 0 0 0 0 0 false 0 0 0 0 0 0 0 0 0 0 0 0 0 0 0 0 0 0 0 0 E0 0 0 0 0 0 0 false E0 E0 j E0 n o p q r s t u v w 0 0 E0 E0 E0 E0 E0 E0 E0 E0 false 0 E0 E0 E0 E0 E0 E0 E0 E0 a8 0
 else
 Ys Zw a b c d h i m e f g l y Y Z aa ab ac ad ae af ag ah ai aj ak al am an ao ap aq ar aZ au av aw ax ay az a0 x k j z n o p q r s t u v w A C D E G H J K L M N O P Q R T U V W X a b c d h 0 0 0 0 0 0 false 0 0 0 0 0 0 0 0 0 0 0 0 0 0 0 0 0 0 0 0 E0 0 0 0 0 0 0 false E0 E0 j E0 n o p q r s t u v w 0 0 E0 E0 E0 E0 E0 E0 E0 E0 false 0 E0 E0 E0 E0 E0 E0 E0 E0 false 0
 else
 Ys Zw a b c d h i m e f g l y Y Z aa ab ac ad ae af ag ah ai aj ak al am an ao ap aq ar aZ au av aw ax ay az a0 x k j z n o p q r s t u v w A C D E G H J K L M N O P Q R T U V W X a b c d h 0 0 0 0 0 0 false 0 0 0 0 0 0 0 0 0 0 0 0 0 0 0 0 0 0 0 0 E0 0 0 0 0 0 0 false E0 E0 j E0 n o p q r s t u v w 0 0 E0 E0 E0 E0 E0 E0 E0 E0 false 0 E0 E0 E0 E0 E0 E0 E0 E0 false 0
 else
 Ys Zw a b c d h i m e f g l y Y Z aa ab ac ad ae af ag ah ai aj ak al am an ao ap aq ar aZ au av aw ax ay az a0 x k j z n o p q r s t u v w A C D E G H J K L M N O P Q R T U V W X a b c d h 0 0 0 0 0 0 false 0 0 0 0 0 0 0 0 0 0 0 0 0 0 0 0 0 0 0 0 E0 0 0 0 0 0 0 false E0 E0 j E0 n o p q r s t u v w 0 0 E0 E0 E0 E0 E0 E0 E0 E0 false 0 E0 E0 E0 E0 E0 E0 E0 E0 false 0
 else
 Ys Zw a b c d h i m e f g l y Y Z aa ab ac ad ae af ag ah ai aj ak al am an ao ap aq ar aZ au av aw ax ay az a0 x k j z n o p q r s t u v w A C D E G H J K L M N O P Q R T U V W X a b c d h 0 0 0 0 0 0 false 0 0 0 0 0 0 0 0 0 0 0 0 0 0 0 0 0 0 0 0 E0 0 0 0 0 0 0 false E0 E0 j E0 n o p q r s t u v w 0 0 E0 E0 E0 E0 E0 E0 E0 E0 false 0 E0 E0 E0 E0 E0 E0 E0 E0 false 0
 else
 if (cop .eql a 15) then
 (g95 h).bind fun a1=>
 Ys Zw a b c d h i m e f g l y Y Z aa ab ac ad ae af ag ah ai aj ak al am an ao ap aq ar aZ au av aw ax ay az a0 x k j z n o p q r s t u v w A C D E G H J K L M N O P Q R T U V W X a b c d h 0 0 0 0 0 0 false 0 0 0 0 0 0 0 0 0 0 0 0 0 0 0 0 0 0 0 0 E0 0 0 0 0 0 0 false E0 E0 E0 E0 0 0 E0 E0 E0 E0 E0 E0 E0 E0 0 0 E0 E0 E0 E0 E0 E0 E0 E0 false 0 E0 E0 E0 E0 E0 E0 E0 E0 a1 0
 else
 if (cop .eql a 16) then
 (g95 h).bind fun a1=>
 Ys Zw a b c d h i m e f g l y Y Z aa ab ac ad ae af ag ah ai aj ak al am an ao ap aq ar aZ au av aw ax ay az a0 x k j z n o p q r s t u v w A C D E G H J K L M N O P Q R T U V W X a b c d h 0 0 0 0 0 0 false 0 0 0 0 0 0 0 0 0 0 0 0 0 0 0 0 0 0 0 0 E0 0 0 0 0 0 0 false E0 E0 E0 E0 0 0 E0 E0 E0 E0 E0 E0 E0 E0 0 0 E0 E0 E0 E0 E0 E0 E0 E0 false 0 E0 E0 E0 E0 E0 E0 E0 E0 a1 0
 else
 if (cop .eql a 17) then
 (Zuw j).bind fun a1=>
 if a1 then
 (Zzd z).bind fun a2=>
 Ys Zw a b c d h i m e f g l y Y Z aa ab ac ad ae af ag ah ai aj ak al am an ao ap aq ar aZ au av aw ax ay az a0 x k j z n o p q r s t u v w A C D E G H J K L M N O P Q R T U V W X a b c d 0 0 0 0 0 0 0 false 0 0 0 0 0 0 0 0 0 0 0 0 0 0 0 0 0 0 0 0 E0 0 0 0 0 0 0 false E0 E0 j z 0 0 E0 E0 E0 E0 E0 E0 E0 E0 0 0 E0 E0 E0 E0 E0 E0 E0 E0 false 0 E0 E0 E0 E0 E0 E0 E0 E0 a2 0
 else
 Ys Zw a b c d h i m e f g l y Y Z aa ab ac ad ae af ag ah ai aj ak al am an ao ap aq ar aZ au av aw ax ay az a0 x k j z n o p q r s t u v w A C D E G H J K L M N O P Q R T U V W X a b c d 0 0 0 0 0 0 0 false 0 0 0 0 0 0 0 0 0 0 0 0 0 0 0 0 0 0 0 0 E0 0 0 0 0 0 0 false E0 E0 j z 0 0 E0 E0 E0 E0 E0 E0 E0 E0 0 0 E0 E0 E0 E0 E0 E0 E0 E0 false 0 E0 E0 E0 E0 E0 E0 E0 E0 false 0
 else
 (g98 e f g).bind fun a1=>
 Ys Zw a b c d h i m e f g l y Y Z aa ab ac ad ae af ag ah ai aj ak al am an ao ap aq ar aZ au av aw ax ay az a0 x k j z n o p q r s t u v w A C D E G H J K L M N O P Q R T U V W X a b c d 0 i 0 e f g 0 false 0 0 0 0 0 0 0 0 0 0 0 0 0 0 0 0 0 0 0 0 E0 0 0 0 0 0 0 false E0 E0 E0 E0 0 0 E0 E0 E0 E0 E0 E0 E0 E0 0 0 E0 E0 E0 E0 E0 E0 E0 E0 false 0 E0 E0 E0 E0 E0 E0 E0 E0 a1 0):=by kernel_rfl
noncomputable def F33:Fn:=⟨27,[4],[(4,[(0,.c (.slice 74)),(1,.c (.slice 74)),(5,.c (.int .i64))])],[],0,[],[],Tryz.f33,[.c (.slice 74),.c (.slice 74)],[.c (.bool)],[(65,F65.S)]⟩
theorem ZAX:F33.S.Ok Tryz.prog 33:=F33.ok Tryz.func33 (by kernel_rfl) ⟨Zz4,trivial⟩
noncomputable def g33 (a b:LL):Option (Bool):=F33.S.g [.l a,.l b]
noncomputable def ZkT (k:Nat) (a b:LL) (c:Int):Option (Bool):=F33.lp [1,0] 0 r0 k [.l a,.l b,.i c]
theorem ZjJ (k:Nat) (d e:LL) (c:Int):ZkT (k+1) d e c =
 (if (cop .lss c (List.length d:Int)) then
 Zl d c hs0 fun (a:Qt2)=>
 Zl e c hs0 fun (b:Qt2)=>
 (g65 a.1 a.2.1 a.2.2.1 a.2.2.2.1 a.2.2.2.2.1 a.2.2.2.2.2.1 a.2.2.2.2.2.2.1 a.2.2.2.2.2.2.2.1 a.2.2.2.2.2.2.2.2.1 a.2.2.2.2.2.2.2.2.2.1 a.2.2.2.2.2.2.2.2.2.2.1 a.2.2.2.2.2.2.2.2.2.2.2.1 (d4 (d8 a)).1 (d4 (d8 a)).2.1 (d2 (d4 (d8 a))).1 (d2 (d4 (d8 a))).2.1 (d16 a).1 (d16 a).2.1 (d2 (d16 a)).1 (d2 (d16 a)).2.1 (d4 (d16 a)).1 (d4 (d16 a)).2.1 (d2 (d4 (d16 a))).1 (d2 (d4 (d16 a))).2.1 (d8 (d16 a)).1 (d8 (d16 a)).2.1 (d2 (d8 (d16 a))).1 (d2 (d8 (d16 a))).2.1 (d4 (d8 (d16 a))).1 (d4 (d8 (d16 a))).2.1 (d2 (d4 (d8 (d16 a)))).1 (d2 (d4 (d8 (d16 a)))).2.1 (d16 (d16 a)).1 (d16 (d16 a)).2.1 (d2 (d16 (d16 a))).1 (d2 (d16 (d16 a))).2.1 (d4 (d16 (d16 a))).1 (d4 (d16 (d16 a))).2.1 (d2 (d4 (d16 (d16 a)))).1 (d2 (d4 (d16 (d16 a)))).2.1 (d8 (d16 (d16 a))).1 (d8 (d16 (d16 a))).2.1 (d2 (d8 (d16 (d16 a)))).1 (d2 (d8 (d16 (d16 a)))).2.1 (d4 (d8 (d16 (d16 a)))).1 (d4 (d8 (d16 (d16 a)))).2.1 (d2 (d4 (d8 (d16 (d16 a))))).1 (d2 (d4 (d8 (d16 (d16 a))))).2.1 (d16 (d16 (d16 a))).1 (d16 (d16 (d16 a))).2.1 (d2 (d16 (d16 (d16 a)))).1 (d2 (d16 (d16 (d16 a)))).2.1 (d4 (d16 (d16 (d16 a)))).1 (d4 (d16 (d16 (d16 a)))).2.1 (d2 (d4 (d16 (d16 (d16 a))))).1 (d2 (d4 (d16 (d16 (d16 a))))).2.1 (d8 (d16 (d16 (d16 a)))).1 (d8 (d16 (d16 (d16 a)))).2.1 (d2 (d8 (d16 (d16 (d16 a))))).1 (d2 (d8 (d16 (d16 (d16 a))))).2.1 (d4 (d8 (d16 (d16 (d16 a))))).1 (d4 (d8 (d16 (d16 (d16 a))))).2.1 (d2 (d4 (d8 (d16 (d16 (d16 a)))))).1 (d2 (d4 (d8 (d16 (d16 (d16 a)))))).2.1 (d16 (d16 (d16 (d16 a)))).1 (d16 (d16 (d16 (d16 a)))).2.1 (d2 (d16 (d16 (d16 (d16 a))))).1 (d2 (d16 (d16 (d16 (d16 a))))).2.1 (d4 (d16 (d16 (d16 (d16 a))))).1 (d4 (d16 (d16 (d16 (d16 a))))).2.1 (d2 (d4 (d16 (d16 (d16 (d16 a)))))).1 (d2 (d4 (d16 (d16 (d16 (d16 a)))))).2.1 (d8 (d16 (d16 (d16 (d16 a))))).1 (d8 (d16 (d16 (d16 (d16 a))))).2 b.1 b.2.1 b.2.2.1 b.2.2.2.1 b.2.2.2.2.1 b.2.2.2.2.2.1 b.2.2.2.2.2.2.1 b.2.2.2.2.2.2.2.1 b.2.2.2.2.2.2.2.2.1 b.2.2.2.2.2.2.2.2.2.1 b.2.2.2.2.2.2.2.2.2.2.1 b.2.2.2.2.2.2.2.2.2.2.2.1 (d4 (d8 b)).1 (d4 (d8 b)).2.1 (d2 (d4 (d8 b))).1 (d2 (d4 (d8 b))).2.1 (d16 b).1 (d16 b).2.1 (d2 (d16 b)).1 (d2 (d16 b)).2.1 (d4 (d16 b)).1 (d4 (d16 b)).2.1 (d2 (d4 (d16 b))).1 (d2 (d4 (d16 b))).2.1 (d8 (d16 b)).1 (d8 (d16 b)).2.1 (d2 (d8 (d16 b))).1 (d2 (d8 (d16 b))).2.1 (d4 (d8 (d16 b))).1 (d4 (d8 (d16 b))).2.1 (d2 (d4 (d8 (d16 b)))).1 (d2 (d4 (d8 (d16 b)))).2.1 (d16 (d16 b)).1 (d16 (d16 b)).2.1 (d2 (d16 (d16 b))).1 (d2 (d16 (d16 b))).2.1 (d4 (d16 (d16 b))).1 (d4 (d16 (d16 b))).2.1 (d2 (d4 (d16 (d16 b)))).1 (d2 (d4 (d16 (d16 b)))).2.1 (d8 (d16 (d16 b))).1 (d8 (d16 (d16 b))).2.1 (d2 (d8 (d16 (d16 b)))).1 (d2 (d8 (d16 (d16 b)))).2.1 (d4 (d8 (d16 (d16 b)))).1 (d4 (d8 (d16 (d16 b)))).2.1 (d2 (d4 (d8 (d16 (d16 b))))).1 (d2 (d4 (d8 (d16 (d16 b))))).2.1 (d16 (d16 (d16 b))).1 (d16 (d16 (d16 b))).2.1 (d2 (d16 (d16 (d16 b)))).1 (d2 (d16 (d16 (d16 b)))).2.1 (d4 (d16 (d16 (d16 b)))).1 (d4 (d16 (d16 (d16 b)))).2.1 (d2 (d4 (d16 (d16 (d16 b))))).1 (d2 (d4 (d16 (d16 (d16 b))))).2.1 (d8 (d16 (d16 (d16 b)))).1 (d8 (d16 (d16 (d16 b)))).2.1 (d2 (d8 (d16 (d16 (d16 b))))).1 (d2 (d8 (d16 (d16 (d16 b))))).2.1 (d4 (d8 (d16 (d16 (d16 b))))).1 (d4 (d8 (d16 (d16 (d16 b))))).2.1 (d2 (d4 (d8 (d16 (d16 (d16 b)))))).1 (d2 (d4 (d8 (d16 (d16 (d16 b)))))).2.1 (d16 (d16 (d16 (d16 b)))).1 (d16 (d16 (d16 (d16 b)))).2.1 (d2 (d16 (d16 (d16 (d16 b))))).1 (d2 (d16 (d16 (d16 (d16 b))))).2.1 (d4 (d16 (d16 (d16 (d16 b))))).1 (d4 (d16 (d16 (d16 (d16 b))))).2.1 (d2 (d4 (d16 (d16 (d16 (d16 b)))))).1 (d2 (d4 (d16 (d16 (d16 (d16 b)))))).2.1 (d8 (d16 (d16 (d16 (d16 b))))).1 (d8 (d16 (d16 (d16 (d16 b))))).2).bind fun f=>
 if (!f) then
 some (false)
 else
 ZkT k d e (iop .add .i64 c 1)
 else
 some (true)):=by kernel_rfl
theorem Zt3 (a b:LL):g33 a b =
 (if (cop .neq (List.length a:Int) (List.length b:Int)) then
 some (false)
 else
 ZkT Zw a b 0):=by kernel_rfl
end Go.Proofs.YthdihcchfjlgkaaGreat
