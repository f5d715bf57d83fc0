/- Functions of the program, as what they compute. -/
import Derived.Test.YtlgmnddelljbmaaGreatGO
namespace Go.Proofs.YtlgmnddelljbmaaGreat
open Go Go.AM
set_option linter.unusedVariables false
set_option maxRecDepth 100000
noncomputable def ZiF:Fn:=⟨31,[2],[],[],0,[],[],Tryz.f150,[.agg [.int .i64,.int .i64,.int .i64]],[.c (.bool)],[]⟩
theorem ZgV:ZiF.S.Ok Tryz.prog 150:=ZiF.ok Tryz.func150 (by kernel_rfl) trivial
noncomputable def Zmr (a b c:Int):Option (Bool):=ZiF.S.g [.i a,.i b,.i c]
theorem Zjk (a b c:Int):Zmr a b c =
 (if (cop .geq a 0) then
 if (cop .lss a 32) then
 if (cop .geq b 1) then
 if (cop .leq b 1073741824) then
 if (cop .geq c 0) then
 some ((cop .lss c 8))
 else
 some (false)
 else
 some (false)
 else
 some (false)
 else
 some (false)
 else
 some (false)):=by kernel_rfl
noncomputable def F90:Fn:=⟨10,[2],[],[],0,[],[],Tryz.f90,[.agg [.int .i64,.int .i64,.int .i64]],[.c (.bool)],[(150,ZiF.S)]⟩
theorem Zmb:F90.S.Ok Tryz.prog 90:=F90.ok Tryz.func90 (by kernel_rfl) ⟨ZgV,trivial⟩
noncomputable def g90 (a b c:Int):Option (Bool):=F90.S.g [.i a,.i b,.i c]
theorem ZiD (b c a:Int):g90 b c a =
 ((Zmr b c a).bind fun d=>
 if d then
 some ((cop .eql a 0))
 else
 some (false)):=by kernel_rfl
noncomputable def F91:Fn:=⟨9,[2],[],[],0,[],[],Tryz.f91,[.c (.int .i64)],[.c (.bool)],[]⟩
theorem Zl9:F91.S.Ok Tryz.prog 91:=F91.ok Tryz.func91 (by kernel_rfl) trivial
noncomputable def g91 (a:Int):Option (Bool):=F91.S.g [.i a]
noncomputable def ZmA:Fn:=⟨26,[4],[(4,[(0,.c (.slice 3)),(1,.c (.slice 3)),(12,.c (.int .i64)),(13,.c (.int .i64))])],[],0,[],[],Tryz.f151,[.c (.slice 3),.c (.slice 3)],[.c (.bool)],[]⟩
theorem Zou:ZmA.S.Ok Tryz.prog 151:=ZmA.ok Tryz.func151 (by kernel_rfl) trivial
noncomputable def F92:Fn:=⟨24,[4],[],[],0,[],[],Tryz.f92,[.agg hs20,.agg hs20],[.c (.bool)],[(151,ZmA.S)]⟩
theorem ZmW:F92.S.Ok Tryz.prog 92:=F92.ok Tryz.func92 (by kernel_rfl) ⟨Zou,trivial⟩
noncomputable def g92 (a c d:Int) (e:LL) (f h j k m n:Int) (o:Bool) (p q r:Int) (s:LL) (t u v w x y:Int) (z:Bool):Option (Bool):=F92.S.g [.i a,.i c,.i d,.l e,.i f,.i h,.i j,.i k,.i m,.i n,.b o,.i p,.i q,.i r,.l s,.i t,.i u,.i v,.i w,.i x,.i y,.b z]
noncomputable def Zmc:Fn:=⟨38,[4],[],[],0,[],[],Tryz.f194,[.c (.int .i64),.c (.int .i64)],[.c (.bool)],[]⟩
theorem Zk7:Zmc.S.Ok Tryz.prog 194:=Zmc.ok Tryz.func194 (by kernel_rfl) trivial
noncomputable def Zly:Fn:=⟨8,[2],[],[],0,[],[],Tryz.f196,[.agg hs22],[.agg [.int .i64,.int .i64]],[]⟩
theorem ZkG:Zly.S.Ok Tryz.prog 196:=Zly.ok Tryz.func196 (by kernel_rfl) trivial
noncomputable def Zks (a c d e f h:Int) (j:Bool):Option (Int×Int):=Zly.S.g [.i a,.i c,.i d,.i e,.i f,.i h,.b j]
theorem ZjI (c a b d e f:Int) (g:Bool):Zks c a b d e f g =
 (some (a,b)):=by kernel_rfl
noncomputable def ZiK:Fn:=⟨32,[2],[],[],0,[],[],Tryz.f195,[.agg [.int .i64,.int .i64]],[.c (.bool)],[]⟩
theorem Zgf:ZiK.S.Ok Tryz.prog 195:=ZiK.ok Tryz.func195 (by kernel_rfl) trivial
noncomputable def Ziz (a b:Int):Option (Bool):=ZiK.S.g [.i a,.i b]
theorem ZiZ (b a:Int):Ziz b a =
 (if (cop .lss a 6) then
 some (false)
 else
 if (cop .gtr a 40) then
 some (false)
 else
 if (cop .lss b 0) then
 some (false)
 else
 J6 ((0:Int)≤a)<|
 J6 (((iop .shl .i64 1 a):Int)≠0)<|
 if (cop .eql (iop .rem .i64 b (iop .shl .i64 1 a)) 0) then
 some ((cop .leq b (iop .sub .i64 1099511627776 (iop .shl .i64 1 a))))
 else
 some (false)):=by kernel_rfl
noncomputable def ZlY:Fn:=⟨22,[4],[],[],0,[],[],Tryz.f197,[.c (.int .i64),.c (.int .i64)],[.c (.bool)],[]⟩
theorem ZkW:ZlY.S.Ok Tryz.prog 197:=ZlY.ok Tryz.func197 (by kernel_rfl) trivial
noncomputable def Zlc:Fn:=⟨55,[2],[],[],0,[],[],Tryz.f152,[.agg hs22],[.c (.bool)],[(194,Zmc.S),(196,Zly.S),(195,ZiK.S),(197,ZlY.S)]⟩
theorem Zj6:Zlc.S.Ok Tryz.prog 152:=Zlc.ok Tryz.func152 (by kernel_rfl) ⟨Zk7,⟨ZkG,⟨Zgf,⟨ZkW,trivial⟩⟩⟩⟩
noncomputable def ZnZ:Fn:=⟨19,[4],[(2,[(0,.c (.slice 3)),(3,.box [.int .i64,.int .i64,.int .i64]),(7,.c (.int .i64)),(8,.c (.int .i64))])],[],0,[],[],Tryz.f198,[.c (.slice 3),.agg [.int .i64,.int .i64,.int .i64]],[.c (.int .i64)],[]⟩
theorem Zm0:ZnZ.S.Ok Tryz.prog 198:=ZnZ.ok Tryz.func198 (by kernel_rfl) trivial
noncomputable def Zmo:Fn:=⟨9,[4],[],[],0,[],[],Tryz.f153,[.c (.slice 3),.agg [.int .i64,.int .i64,.int .i64]],[.c (.bool)],[(198,ZnZ.S)]⟩
theorem ZkJ:Zmo.S.Ok Tryz.prog 153:=Zmo.ok Tryz.func153 (by kernel_rfl) ⟨Zm0,trivial⟩
noncomputable def F93:Fn:=⟨47,[2],[(4,[(1,.box hs20),(22,.c (.slice 3)),(23,.c (.int .i64)),(24,.c (.int .i64))])],[],0,[],[],Tryz.f93,[.agg hs20],[.c (.bool)],[(150,ZiF.S),(152,Zlc.S),(153,Zmo.S)]⟩
theorem Zll:F93.S.Ok Tryz.prog 93:=F93.ok Tryz.func93 (by kernel_rfl) ⟨ZgV,⟨Zj6,⟨ZkJ,trivial⟩⟩⟩
noncomputable def g93 (a c d:Int) (e:LL) (f h j k m n:Int) (o:Bool):Option (Bool):=F93.S.g [.i a,.i c,.i d,.l e,.i f,.i h,.i j,.i k,.i m,.i n,.b o]
noncomputable def F42:Fn:=⟨46,[2],[],[],0,[],[],Tryz.f42,[.agg hs8],[.c (.bool)],[(90,F90.S),(91,F91.S),(92,F92.S),(93,F93.S)]⟩
theorem Zoh:F42.S.Ok Tryz.prog 42:=F42.ok Tryz.func42 (by kernel_rfl) ⟨Zmb,⟨Zl9,⟨ZmW,⟨Zll,trivial⟩⟩⟩⟩
noncomputable def g42 (a c d e f h j k m n o p q r s t u v w x:Int) (y:LL) (z A C D E G:Int) (H:Bool):Option (Bool):=F42.S.g [.i a,.i c,.i d,.i e,.i f,.i h,.i j,.i k,.i m,.i n,.i o,.i p,.i q,.i r,.i s,.i t,.i u,.i v,.i w,.i x,.l y,.i z,.i A,.i C,.i D,.i E,.i G,.b H]
theorem ZkI (o p q b s t u v w x y z A C D r n c d e:Int) (f:LL) (g h i j k l:Int) (m:Bool):g42 o p q b s t u v w x y z A C D r n c d e f g h i j k l m =
 ((g90 o p q).bind fun E=>
 if (!E) then
 some (false)
 else
 if (cop .lss b 1) then
 some (false)
 else
 if (cop .gtr b 6) then
 some (false)
 else
 (g91 r).bind fun G=>
 if (!G) then
 some (false)
 else
 if (cop .neq n 32) then
 if (cop .neq n 39) then
 some (false)
 else
 if (cop .eql b 1) then
 (g92 c d e f g h i j k l m 0 0 0 E0 0 0 0 0 0 0 false).bind fun a=>
 some (a)
 else
 (g93 c d e f g h i j k l m).bind fun a=>
 some (a)
 else
 if (cop .eql b 1) then
 (g92 c d e f g h i j k l m 0 0 0 E0 0 0 0 0 0 0 false).bind fun a=>
 some (a)
 else
 (g93 c d e f g h i j k l m).bind fun a=>
 some (a)):=by kernel_rfl
end Go.Proofs.YtlgmnddelljbmaaGreat
