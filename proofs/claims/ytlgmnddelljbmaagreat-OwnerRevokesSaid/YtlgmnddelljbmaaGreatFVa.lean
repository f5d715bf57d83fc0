/- Functions of the program, as what they compute. -/
import Derived.Test.YtlgmnddelljbmaaGreatGV
namespace Go.Proofs.YtlgmnddelljbmaaGreat
open Go Go.AM
set_option linter.unusedVariables false
set_option maxRecDepth 100000
noncomputable def Zms:Fn:=⟨31,[2],[],[],0,[],[],Tryz.f150,[.agg [.int .i64,.int .i64,.int .i64]],[.c (.bool)],[]⟩
theorem Zjq:Zms.S.Ok Tryz.prog 150:=Zms.ok Tryz.func150 (by kernel_rfl) trivial
noncomputable def ZqG (a b c:Int):Option (Bool):=Zms.S.g [.i a,.i b,.i c]
theorem Zn7 (a b c:Int):ZqG a b c =
 (if (cop .geq a 0) then
 if (cop .lss a 32) then
 if (cop .geq b 1) then
 if (cop .leq b 1073741824) then
 if (cop .geq c 0) then
 some ((cop .lss c 8))
 else
 some (false)
 else
 some (false)
 else
 some (false)
 else
 some (false)
 else
 some (false)):=by kernel_rfl
noncomputable def F90:Fn:=⟨10,[2],[],[],0,[],[],Tryz.f90,[.agg [.int .i64,.int .i64,.int .i64]],[.c (.bool)],[(150,Zms.S)]⟩
theorem ZrJ:F90.S.Ok Tryz.prog 90:=F90.ok Tryz.func90 (by kernel_rfl) ⟨Zjq,trivial⟩
noncomputable def g90 (a b c:Int):Option (Bool):=F90.S.g [.i a,.i b,.i c]
theorem Zmv (b c a:Int):g90 b c a =
 ((ZqG b c a).bind fun d=>
 if d then
 some ((cop .eql a 0))
 else
 some (false)):=by kernel_rfl
noncomputable def F91:Fn:=⟨9,[2],[],[],0,[],[],Tryz.f91,[.c (.int .i64)],[.c (.bool)],[]⟩
theorem ZrR:F91.S.Ok Tryz.prog 91:=F91.ok Tryz.func91 (by kernel_rfl) trivial
noncomputable def g91 (a:Int):Option (Bool):=F91.S.g [.i a]
noncomputable def ZsW:Fn:=⟨26,[4],[(4,[(0,.c (.slice 3)),(1,.c (.slice 3)),(12,.c (.int .i64)),(13,.c (.int .i64))])],[],0,[],[],Tryz.f151,[.c (.slice 3),.c (.slice 3)],[.c (.bool)],[]⟩
theorem Zto:ZsW.S.Ok Tryz.prog 151:=ZsW.ok Tryz.func151 (by kernel_rfl) trivial
noncomputable def F92:Fn:=⟨24,[4],[],[],0,[],[],Tryz.f92,[.agg hs19,.agg hs19],[.c (.bool)],[(151,ZsW.S)]⟩
theorem Zt7:F92.S.Ok Tryz.prog 92:=F92.ok Tryz.func92 (by kernel_rfl) ⟨Zto,trivial⟩
noncomputable def g92 (a c d:Int) (e:LL) (f h j k m n:Int) (o:Bool) (p q r:Int) (s:LL) (t u v w x y:Int) (z:Bool):Option (Bool):=F92.S.g [.i a,.i c,.i d,.l e,.i f,.i h,.i j,.i k,.i m,.i n,.b o,.i p,.i q,.i r,.l s,.i t,.i u,.i v,.i w,.i x,.i y,.b z]
noncomputable def Zph:Fn:=⟨38,[4],[],[],0,[],[],Tryz.f194,[.c (.int .i64),.c (.int .i64)],[.c (.bool)],[]⟩
theorem ZpE:Zph.S.Ok Tryz.prog 194:=Zph.ok Tryz.func194 (by kernel_rfl) trivial
noncomputable def Ztc (a b:Int):Option (Bool):=Zph.S.g [.i a,.i b]
theorem ZmJ (b a:Int):Ztc b a =
 (if (cop .eql b 1) then
 if (cop .geq a 6) then
 some ((cop .leq a 40))
 else
 some (false)
 else
 if (cop .eql b 2) then
 if (cop .geq a 12) then
 some ((cop .leq a 40))
 else
 some (false)
 else
 if (cop .eql b 3) then
 some ((cop .eql a 12))
 else
 if (cop .eql b 4) then
 some ((cop .eql a 6))
 else
 if (cop .eql b 5) then
 some ((cop .eql a 10))
 else
 if (cop .eql b 6) then
 some ((cop .eql a 16))
 else
 some (false)):=by kernel_rfl
noncomputable def Zq4:Fn:=⟨8,[2],[],[],0,[],[],Tryz.f196,[.agg hs22],[.agg [.int .i64,.int .i64]],[]⟩
theorem Zpr:Zq4.S.Ok Tryz.prog 196:=Zq4.ok Tryz.func196 (by kernel_rfl) trivial
noncomputable def ZtV (a c d e f h:Int) (j:Bool):Option (Int×Int):=Zq4.S.g [.i a,.i c,.i d,.i e,.i f,.i h,.b j]
theorem Zm3 (c a b d e f:Int) (g:Bool):ZtV c a b d e f g =
 (some (a,b)):=by kernel_rfl
noncomputable def Zmm:Fn:=⟨32,[2],[],[],0,[],[],Tryz.f195,[.agg [.int .i64,.int .i64]],[.c (.bool)],[]⟩
theorem ZiH:Zmm.S.Ok Tryz.prog 195:=Zmm.ok Tryz.func195 (by kernel_rfl) trivial
noncomputable def ZsY (a b:Int):Option (Bool):=Zmm.S.g [.i a,.i b]
theorem Zop (b a:Int):ZsY b a =
 (if (cop .lss a 6) then
 some (false)
 else
 if (cop .gtr a 40) then
 some (false)
 else
 if (cop .lss b 0) then
 some (false)
 else
 ZA ((0:Int)≤a)<|
 ZA (((iop .shl .i64 1 a):Int)≠0)<|
 if (cop .eql (iop .rem .i64 b (iop .shl .i64 1 a)) 0) then
 some ((cop .leq b (iop .sub .i64 1099511627776 (iop .shl .i64 1 a))))
 else
 some (false)):=by kernel_rfl
noncomputable def Zo8:Fn:=⟨22,[4],[],[],0,[],[],Tryz.f197,[.c (.int .i64),.c (.int .i64)],[.c (.bool)],[]⟩
theorem ZoV:Zo8.S.Ok Tryz.prog 197:=Zo8.ok Tryz.func197 (by kernel_rfl) trivial
noncomputable def Zr8 (a b:Int):Option (Bool):=Zo8.S.g [.i a,.i b]
theorem Zoi (b a:Int):Zr8 b a =
 (if (cop .eql b 32) then
 if (cop .geq a 0) then
 some ((cop .leq a 1))
 else
 some (false)
 else
 if (cop .eql b 39) then
 if (cop .geq a 0) then
 some ((cop .leq a 2))
 else
 some (false)
 else
 some (false)):=by kernel_rfl
noncomputable def ZoK:Fn:=⟨55,[2],[],[],0,[],[],Tryz.f152,[.agg hs22],[.c (.bool)],[(194,Zph.S),(196,Zq4.S),(195,Zmm.S),(197,Zo8.S)]⟩
theorem Zoh:ZoK.S.Ok Tryz.prog 152:=ZoK.ok Tryz.func152 (by kernel_rfl) ⟨ZpE,⟨Zpr,⟨ZiH,⟨ZoV,trivial⟩⟩⟩⟩
noncomputable def ZtP (a c d e f h:Int) (j:Bool):Option (Bool):=ZoK.S.g [.i a,.i c,.i d,.i e,.i f,.i h,.b j]
theorem ZnY (a g f b c d:Int) (e:Bool):ZtP a g f b c d e =
 ((Ztc a f).bind fun i=>
 if (!i) then
 some (false)
 else
 (ZtV a g f b c d e).bind fun h=>
 (ZsY h.1 h.2).bind fun j=>
 if (!j) then
 some (false)
 else
 if (cop .lss b 0) then
 some (false)
 else
 if (cop .gtr b 7) then
 some (false)
 else
 if (cop .eql a 3) then
 (Zr8 c d).bind fun k=>
 if (!k) then
 some (false)
 else
 if (!e) then
 some (true)
 else
 if (cop .eql a 1) then
 some (true)
 else
 some ((cop .eql a 2))
 else
 if (cop .neq c 0) then
 some (false)
 else
 if (cop .neq d 0) then
 some (false)
 else
 if (!e) then
 some (true)
 else
 if (cop .eql a 1) then
 some (true)
 else
 some ((cop .eql a 2))):=by kernel_rfl
noncomputable def Zqa:Fn:=⟨19,[4],[(2,[(0,.c (.slice 3)),(3,.box [.int .i64,.int .i64,.int .i64]),(7,.c (.int .i64)),(8,.c (.int .i64))])],[],0,[],[],Tryz.f198,[.c (.slice 3),.agg [.int .i64,.int .i64,.int .i64]],[.c (.int .i64)],[]⟩
theorem ZsF:Zqa.S.Ok Tryz.prog 198:=Zqa.ok Tryz.func198 (by kernel_rfl) trivial
noncomputable def ZuW (a:LL) (b c d:Int):Option (Int):=Zqa.S.g [.l a,.i b,.i c,.i d]
noncomputable def Zfw (k:Nat) (a:LL) (b c d e f:Int):Option (Int):=Zqa.lp [0] 0 r0 k [.l a,.i b,.i c,.i d,.i e,.i f]
theorem Zfp (k:Nat) (b:LL) (c d e f a:Int):Zfw (k+1) b c d e f a =
 (if (cop .lss a f) then
 Zt b a [.int .i64,.int .i64,.int .i64] fun (g:Int×Int×Int)=>
 if ((cop .eql c g.1)&&((cop .eql d g.2.1)&&((cop .eql e g.2.2)&&true))) then
 some (a)
 else
 Zfw k b c d e f (iop .add .i64 a 1)
 else
 some ((-1))):=by kernel_rfl
theorem ZmM (a:LL) (b c d:Int):ZuW a b c d =
 (Zfw Jn a b c d (List.length a:Int) 0):=by kernel_rfl
noncomputable def Zpz:Fn:=⟨9,[4],[],[],0,[],[],Tryz.f153,[.c (.slice 3),.agg [.int .i64,.int .i64,.int .i64]],[.c (.bool)],[(198,Zqa.S)]⟩
theorem ZqZ:Zpz.S.Ok Tryz.prog 153:=Zpz.ok Tryz.func153 (by kernel_rfl) ⟨ZsF,trivial⟩
noncomputable def Zrz (a:LL) (b c d:Int):Option (Bool):=Zpz.S.g [.l a,.i b,.i c,.i d]
theorem ZmN (a:LL) (b c d:Int):Zrz a b c d =
 ((ZuW a b c d).bind fun e=>
 some ((cop .geq e 0))):=by kernel_rfl
noncomputable def F93:Fn:=⟨47,[2],[(4,[(1,.box hs19),(22,.c (.slice 3)),(23,.c (.int .i64)),(24,.c (.int .i64))])],[],0,[],[],Tryz.f93,[.agg hs19],[.c (.bool)],[(150,Zms.S),(152,ZoK.S),(153,Zpz.S)]⟩
theorem ZqT:F93.S.Ok Tryz.prog 93:=F93.ok Tryz.func93 (by kernel_rfl) ⟨Zjq,⟨Zoh,⟨ZqZ,trivial⟩⟩⟩
noncomputable def g93 (a c d:Int) (e:LL) (f h j k m n:Int) (o:Bool):Option (Bool):=F93.S.g [.i a,.i c,.i d,.l e,.i f,.i h,.i j,.i k,.i m,.i n,.b o]
noncomputable def Zlf (k:Nat) (a c d:Int) (e:LL) (f g h j m n:Int) (o:Bool) (p:LL) (q r:Int):Option (Bool):=F93.lp [0,1,0,1,1,0] 0 r0 k [.i a,.i c,.i d,.l e,.i f,.i g,.i h,.i j,.i m,.i n,.b o,.l p,.i q,.i r]
theorem Zhp (k:Nat) (d e f:Int) (c:LL) (i j l m n o:Int) (p:Bool) (g:LL) (h b:Int):Zlf (k+1) d e f c i j l m n o p g h b =
 (if (cop .lss b h) then
 Zt g b [.int .i64,.int .i64,.int .i64] fun (a:Int×Int×Int)=>
 (ZqG a.1 a.2.1 a.2.2).bind fun q=>
 if (!q) then
 some (false)
 else
 if ((cop .eql a.1 d)&&((cop .eql a.2.1 e)&&((cop .eql a.2.2 f)&&true))) then
 some (false)
 else
 ZA ((0:Int)≤b)<|
 ZA ((b:Int)≤(List.length c:Int))<|
 (Zrz (List.take (Int.toNat b) c) a.1 a.2.1 a.2.2).bind fun r=>
 if r then
 some (false)
 else
 Zlf k d e f c i j l m n o p g h (iop .add .i64 b 1)
 else
 some (true)):=by kernel_rfl
theorem ZqK (b c d:Int) (a:LL) (e f g h i j:Int) (k:Bool):g93 b c d a e f g h i j k =
 ((ZqG b c d).bind fun l=>
 if (!l) then
 some (false)
 else
 (ZtP e f g h i j k).bind fun m=>
 if (!m) then
 some (false)
 else
 if (cop .gtr (List.length a:Int) 8) then
 some (false)
 else
 Zlf Jn b c d a e f g h i j k a (List.length a:Int) 0):=by kernel_rfl
noncomputable def F42:Fn:=⟨46,[2],[],[],0,[],[],Tryz.f42,[.agg hs7],[.c (.bool)],[(90,F90.S),(91,F91.S),(92,F92.S),(93,F93.S)]⟩
theorem ZtF:F42.S.Ok Tryz.prog 42:=F42.ok Tryz.func42 (by kernel_rfl) ⟨ZrJ,⟨ZrR,⟨Zt7,⟨ZqT,trivial⟩⟩⟩⟩
noncomputable def g42 (a c d e f h j k m n o p q r s t u v w x:Int) (y:LL) (z A C D E G:Int) (H:Bool):Option (Bool):=F42.S.g [.i a,.i c,.i d,.i e,.i f,.i h,.i j,.i k,.i m,.i n,.i o,.i p,.i q,.i r,.i s,.i t,.i u,.i v,.i w,.i x,.l y,.i z,.i A,.i C,.i D,.i E,.i G,.b H]
theorem Zqb (o p q b s t u v w x y z A C D r n c d e:Int) (f:LL) (g h i j k l:Int) (m:Bool):g42 o p q b s t u v w x y z A C D r n c d e f g h i j k l m =
 ((g90 o p q).bind fun E=>
 if (!E) then
 some (false)
 else
 if (cop .lss b 1) then
 some (false)
 else
 if (cop .gtr b 6) then
 some (false)
 else
 (g91 r).bind fun G=>
 if (!G) then
 some (false)
 else
 if (cop .neq n 32) then
 if (cop .neq n 39) then
 some (false)
 else
 if (cop .eql b 1) then
 (g92 c d e f g h i j k l m 0 0 0 E0 0 0 0 0 0 0 false).bind fun a=>
 some (a)
 else
 (g93 c d e f g h i j k l m).bind fun a=>
 some (a)
 else
 if (cop .eql b 1) then
 (g92 c d e f g h i j k l m 0 0 0 E0 0 0 0 0 0 0 false).bind fun a=>
 some (a)
 else
 (g93 c d e f g h i j k l m).bind fun a=>
 some (a)):=by kernel_rfl
end Go.Proofs.YtlgmnddelljbmaaGreat
