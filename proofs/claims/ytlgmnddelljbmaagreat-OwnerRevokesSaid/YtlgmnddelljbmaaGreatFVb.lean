/- Functions of the program, as what they compute. -/
import Derived.Test.YtlgmnddelljbmaaGreatFVa
namespace Go.Proofs.YtlgmnddelljbmaaGreat
open Go Go.AM
set_option linter.unusedVariables false
set_option maxRecDepth 100000
noncomputable def F84:Fn:=⟨22,[4,5],[(2,[(3,.box [.int .i64,.int .i64,.int .i64]),(8,.c (.slice 13)),(9,.c (.int .i64)),(10,.c (.int .i64))])],[],0,[],[],Tryz.f84,[.c (.slice 13),.agg [.int .i64,.int .i64,.int .i64]],[.c (.int .i64),.c (.bool)],[]⟩
theorem Zrd:F84.S.Ok Tryz.prog 84:=F84.ok Tryz.func84 (by kernel_rfl) trivial
noncomputable def g84 (a:LL) (b c d:Int):Option (Int×Bool):=F84.S.g [.l a,.i b,.i c,.i d]
noncomputable def ZlC (k:Nat) (a b c:Int) (d:LL) (e f:Int):Option (Int×Bool):=F84.lp [0] 0 r0 k [.i a,.i b,.i c,.l d,.i e,.i f]
theorem Zk2 (k:Nat) (b c d:Int) (e:LL) (f a:Int):ZlC (k+1) b c d e f a =
 (if (cop .lss a f) then
 Zt e a hs18 fun (g:Qt21)=>
 if ((cop .eql g.2.2.1 b)&&((cop .eql g.2.2.2.1 c)&&((cop .eql g.2.2.2.2.1 d)&&true))) then
 some (a,true)
 else
 ZlC k b c d e f (iop .add .i64 a 1)
 else
 some (0,false)):=by kernel_rfl
theorem ZqW (a:LL) (b c d:Int):g84 a b c d =
 (ZlC Jn b c d a (List.length a:Int) 0):=by kernel_rfl
noncomputable def F85:Fn:=⟨29,[6,7],[(2,[(1,.c (.int .i64)),(2,.c (.int .i64)),(10,.c (.slice 13)),(11,.c (.int .i64)),(12,.c (.int .i64))])],[],0,[],[],Tryz.f85,[.c (.slice 13),.c (.int .i64),.c (.int .i64)],[.c (.int .i64),.c (.bool)],[]⟩
theorem ZvR:F85.S.Ok Tryz.prog 85:=F85.ok Tryz.func85 (by kernel_rfl) trivial
noncomputable def g85 (a:LL) (b c:Int):Option (Int×Bool):=F85.S.g [.l a,.i b,.i c]
noncomputable def ZhN (k:Nat) (a b:Int) (c:LL) (d e:Int):Option (Int×Bool):=F85.lp [0] 0 r0 k [.i a,.i b,.l c,.i d,.i e]
theorem Zk5 (k:Nat) (b c:Int) (d:LL) (e a:Int):ZhN (k+1) b c d e a =
 (if (cop .lss a e) then
 Zt d a hs18 fun (f:Qt21)=>
 if (cop .eql f.1 b) then
 if (cop .eql f.2.1 c) then
 some (a,true)
 else
 ZhN k b c d e (iop .add .i64 a 1)
 else
 ZhN k b c d e (iop .add .i64 a 1)
 else
 some (0,false)):=by kernel_rfl
theorem ZqB (a:LL) (b c:Int):g85 a b c =
 (ZhN Jn b c a (List.length a:Int) 0):=by kernel_rfl
noncomputable def Zqu:Fn:=⟨6,[2],[],[],0,[],[],Tryz.f221,[.c (.int .i64)],[.c (.bool)],[]⟩
theorem Zo0:Zqu.S.Ok Tryz.prog 221:=Zqu.ok Tryz.func221 (by kernel_rfl) trivial
noncomputable def Znc (a:Int):Option (Bool):=Zqu.S.g [.i a]
theorem ZjH (a:Int):Znc a =
 (some ((cop .neq a a))):=by kernel_rfl
noncomputable def ZrE:Fn:=⟨20,[4],[],[],0,[],[],Tryz.f192,[.c (.int .i64),.c (.int .i64)],[.c (.int .i64)],[(221,Zqu.S)]⟩
theorem Ztg:ZrE.S.Ok Tryz.prog 192:=ZrE.ok Tryz.func192 (by kernel_rfl) ⟨Zo0,trivial⟩
noncomputable def Zqq (a b:Int):Option (Int):=ZrE.S.g [.i a,.i b]
theorem Zof (a b:Int):Zqq a b =
 ((Znc a).bind fun d=>
 (Znc b).bind fun c=>
 if d then
 if c then
 some (0)
 else
 some ((-1))
 else
 if c then
 some (1)
 else
 if (cop .lss a b) then
 some ((-1))
 else
 if (cop .gtr a b) then
 some (1)
 else
 some (0)):=by kernel_rfl
noncomputable def ZqR:Fn:=⟨18,[2],[(3,[(3,.c (.int .i64)),(6,.c (.slice 1)),(7,.c (.int .i64)),(8,.c (.int .i64))])],[],0,[],[],Tryz.f191,[.c (.slice 1)],[.c (.int .i64)],[]⟩
theorem ZtM:ZqR.S.Ok Tryz.prog 191:=ZqR.ok Tryz.func191 (by kernel_rfl) trivial
noncomputable def Ztn (a:LL):Option (Int):=ZqR.S.g [.l a]
noncomputable def Zke (k:Nat) (a:Int) (b:LL) (c d:Int):Option (Int):=ZqR.lp [0] 0 r0 k [.i a,.l b,.i c,.i d]
theorem V5 (k:Nat) (a:Int) (c:LL) (d b:Int):Zke (k+1) a c d b =
 (if (cop .lss b d) then
 Zt c b [.int .i64] fun (e:Int)=>
 if (cop .neq e a) then
 some (e)
 else
 Zke k a c d (iop .add .i64 b 1)
 else
 some (a)):=by kernel_rfl
theorem ZnH (a:LL):Ztn a =
 (Zke Jn 0 a (List.length a:Int) 0):=by kernel_rfl
noncomputable def ZrD:Fn:=⟨22,[4],[],[],0,[],[],Tryz.f146,[.agg [.int .i64,.int .i64,.int .i64],.agg [.int .i64,.int .i64,.int .i64]],[.c (.int .i64)],[(192,ZrE.S),(191,ZqR.S)]⟩
theorem ZtE:ZrD.S.Ok Tryz.prog 146:=ZrD.ok Tryz.func146 (by kernel_rfl) ⟨Ztg,⟨ZtM,trivial⟩⟩
noncomputable def ZtI (a b c d e f:Int):Option (Int):=ZrD.S.g [.i a,.i b,.i c,.i d,.i e,.i f]
theorem ZnJ (a b c d e f:Int):ZtI a b c d e f =
 ((Zqq a d).bind fun g=>
 (Zqq b e).bind fun h=>
 (Zqq c f).bind fun i=>
 (Ztn (((E0++[[AV.val (.int .i64 g)]])++[[AV.val (.int .i64 h)]])++[[AV.val (.int .i64 i)]])).bind fun j=>
 some (j)):=by kernel_rfl
noncomputable def F86:Fn:=⟨9,[4],[],[],0,[],[],Tryz.f86,[.agg [.int .i64,.int .i64,.int .i64],.agg [.int .i64,.int .i64,.int .i64]],[.c (.bool)],[(146,ZrD.S)]⟩
theorem Zte:F86.S.Ok Tryz.prog 86:=F86.ok Tryz.func86 (by kernel_rfl) ⟨ZtE,trivial⟩
noncomputable def g86 (a b c d e f:Int):Option (Bool):=F86.S.g [.i a,.i b,.i c,.i d,.i e,.i f]
theorem Zpg (a b c d e f:Int):g86 a b c d e f =
 ((ZtI a b c d e f).bind fun g=>
 some ((cop .lss g 0))):=by kernel_rfl
noncomputable def ZrM:Fn:=⟨8,[2],[],[],0,[2,5,7],[],Tryz.f108,[.c (.slice 13)],[.c (.own true 40)],[]⟩
theorem Zt4:ZrM.S.Ok Tryz.prog 108:=ZrM.ok Tryz.func108 (by kernel_rfl) trivial
noncomputable def Zsi (a:LL):Option (LL):=ZrM.S.g [.l a]
theorem Zos (a:LL):Zsi a =
 (ZhX a fun b=>
 if b then
 some (E0)
 else
 ZA (Jb E0 a 120)<|
 some ((E0++a))):=by kernel_rfl
noncomputable def Zqs:Fn:=⟨8,[2],[],[],0,[],[],Tryz.f147,[.c (.slice 3)],[.c (.own false 33)],[]⟩
theorem ZpW:Zqs.S.Ok Tryz.prog 147:=Zqs.ok Tryz.func147 (by kernel_rfl) trivial
noncomputable def Zr3 (a:LL):Option (LL):=Zqs.S.g [.l a]
theorem Zn8 (a:LL):Zr3 a =
 (ZhX a fun b=>
 if b then
 some (E0)
 else
 ZA (Jb E0 a 24)<|
 some ((E0++a))):=by kernel_rfl
noncomputable def F87:Fn:=⟨8,[2],[],[],0,[],[],Tryz.f87,[.agg hs19],[.agg hs19],[(147,Zqs.S)]⟩
theorem ZpM:F87.S.Ok Tryz.prog 87:=F87.ok Tryz.func87 (by kernel_rfl) ⟨ZpW,trivial⟩
noncomputable def g87 (a c d:Int) (e:LL) (f h j k m n:Int) (o:Bool):Option (Qt24):=F87.S.g [.i a,.i c,.i d,.l e,.i f,.i h,.i j,.i k,.i m,.i n,.b o]
theorem ZpT (a b c:Int) (d:LL) (e f g h i j:Int) (k:Bool):g87 a b c d e f g h i j k =
 ((Zr3 d).bind fun l=>
 some (a,b,c,l,e,f,g,h,i,j,k)):=by kernel_rfl
noncomputable def F51:Fn:=⟨24,[2],[(3,[(3,.c (.own true 40)),(8,.c (.int .i64)),(9,.c (.int .i64))])],[],0,[2],[],Tryz.f51,[.c (.slice 13)],[.c (.own true 40)],[(108,ZrM.S),(87,F87.S)]⟩
theorem ZsS:F51.S.Ok Tryz.prog 51:=F51.ok Tryz.func51 (by kernel_rfl) ⟨Zt4,⟨ZpM,trivial⟩⟩
noncomputable def g51 (a:LL):Option (LL):=F51.S.g [.l a]
noncomputable def Zld (k:Nat) (a:LL) (b c:Int):Option (LL):=F51.lp [2] 0 r0 k [.l a,.i b,.i c]
theorem Zlp (k:Nat) (d:LL) (e a:Int):Zld (k+1) d e a =
 (if (cop .lss a e) then
 ZA ((0:Int)≤a)<|
 ZA ((a:Int) < (List.length d:Int))<|
 Zt d a hs18 fun (b:Qt21)=>
 (g87 b.2.2.1 b.2.2.2.1 b.2.2.2.2.1 b.2.2.2.2.2.1 b.2.2.2.2.2.2.1 b.2.2.2.2.2.2.2.1 b.2.2.2.2.2.2.2.2.1 b.2.2.2.2.2.2.2.2.2.1 b.2.2.2.2.2.2.2.2.2.2.1 b.2.2.2.2.2.2.2.2.2.2.2.1 (d4 (d8 b))).bind fun c=>
 ZA ((0:Int)≤a)<|
 ZA ((a:Int) < (List.length d:Int))<|
 ZA ((0:Int)≤a)<|
 ZA ((a:Int) < (List.length d:Int))<|
 Zld k (JJ d (Int.toNat a) 2 [AV.val (.int .i64 c.1),AV.val (.int .i64 c.2.1),AV.val (.int .i64 c.2.2.1),AV.slice false 3 c.2.2.2.1,AV.val (.int .i64 c.2.2.2.2.1),AV.val (.int .i64 c.2.2.2.2.2.1),AV.val (.int .i64 c.2.2.2.2.2.2.1),AV.val (.int .i64 c.2.2.2.2.2.2.2.1),AV.val (.int .i64 c.2.2.2.2.2.2.2.2.1),AV.val (.int .i64 c.2.2.2.2.2.2.2.2.2.1),AV.val (.bool c.2.2.2.2.2.2.2.2.2.2)]) e (iop .add .i64 a 1)
 else
 some (d)):=by kernel_rfl
theorem ZpC (a:LL):g51 a =
 ((Zsi a).bind fun b=>
 Zld Jn b (List.length b:Int) 0):=by kernel_rfl
noncomputable def F88.S:Fun:=ZuR false 40 120
theorem ZvU:F88.S.Ok Tryz.prog 88:=insF_ok (T:=23) (B:=4) (I:=3) (e:=40) (fO:=148) (fR:=149) mixed (by kernel_rfl) Tryz.func88 (by kernel_rfl) ⟨by kernel_rfl,by kernel_rfl,by kernel_rfl⟩ Tryz.func148 (by kernel_rfl) (by kernel_rfl) (by kernel_rfl) (by kernel_rfl)
noncomputable def g88 (a:LL) (b:Int) (c:LL):Option LL:=F88.S.g [.l a,.i b,.l c]
theorem ZqO (a:LL) (b:Int) (c:LL):g88 a b c=ZtW 120 a b c:=rfl
noncomputable def F38:Fn:=⟨64,[4,5],[(7,[(0,.c (.slice 13)),(3,.box hs18),(10,.c (.int .i64)),(37,.c (.slice 13)),(38,.c (.int .i64)),(39,.c (.int .i64))])],[],0,[],[],Tryz.f38,[.c (.slice 13),.agg hs18],[.c (.slice 13),.c (.bool)],[(84,F84.S),(85,F85.S),(86,F86.S),(51,F51.S),(87,F87.S),(88,F88.S)]⟩
theorem ZuA:F38.S.Ok Tryz.prog 38:=F38.ok Tryz.func38 (by kernel_rfl) ⟨Zrd,⟨ZvR,⟨Zte,⟨ZsS,⟨ZpM,⟨ZvU,trivial⟩⟩⟩⟩⟩⟩
noncomputable def g38 (a:LL) (c d e f h:Int) (j:LL) (k m n o p q:Int) (r:Bool):Option (LL×Bool):=F38.S.g [.l a,.i c,.i d,.i e,.i f,.i h,.l j,.i k,.i m,.i n,.i o,.i p,.i q,.b r]
noncomputable def Zlk (k:Nat) (a:LL) (c d e f g:Int) (h:LL) (j m n o p q:Int) (r:Bool) (s:Int) (t:LL) (u v:Int):Option (LL×Bool):=F38.lp [2,1,1,0] 0 r0 k [.l a,.i c,.i d,.i e,.i f,.i g,.l h,.i j,.i m,.i n,.i o,.i p,.i q,.b r,.i s,.l t,.i u,.i v]
theorem ZkX (k:Nat) (h:LL) (i j c d e:Int) (l:LL) (m n o p q r:Int) (s:Bool) (t:Int) (u:LL) (v f:Int):Zlk (k+1) h i j c d e l m n o p q r s t u v f =
 (if (cop .lss f v) then
 Zt u f hs18 fun (g:Qt21)=>
 (g86 c d e g.2.2.1 g.2.2.2.1 g.2.2.2.2.1).bind fun w=>
 if w then
 (g51 h).bind fun x=>
 (g87 c d e l m n o p q r s).bind fun a=>
 (g88 x f (E0++[[AV.val (.int .i64 i),AV.val (.int .i64 j),AV.val (.int .i64 a.1),AV.val (.int .i64 a.2.1),AV.val (.int .i64 a.2.2.1),AV.slice false 3 a.2.2.2.1,AV.val (.int .i64 a.2.2.2.2.1),AV.val (.int .i64 a.2.2.2.2.2.1),AV.val (.int .i64 a.2.2.2.2.2.2.1),AV.val (.int .i64 a.2.2.2.2.2.2.2.1),AV.val (.int .i64 a.2.2.2.2.2.2.2.2.1),AV.val (.int .i64 a.2.2.2.2.2.2.2.2.2.1),AV.val (.bool a.2.2.2.2.2.2.2.2.2.2)]])).bind fun y=>
 some (y,true)
 else
 Zlk k h i j c d e l m n o p q r s t u v (iop .add .i64 f 1)
 else
 (g51 h).bind fun g=>
 (g87 c d e l m n o p q r s).bind fun b=>
 (g88 g t (E0++[[AV.val (.int .i64 i),AV.val (.int .i64 j),AV.val (.int .i64 b.1),AV.val (.int .i64 b.2.1),AV.val (.int .i64 b.2.2.1),AV.slice false 3 b.2.2.2.1,AV.val (.int .i64 b.2.2.2.2.1),AV.val (.int .i64 b.2.2.2.2.2.1),AV.val (.int .i64 b.2.2.2.2.2.2.1),AV.val (.int .i64 b.2.2.2.2.2.2.2.1),AV.val (.int .i64 b.2.2.2.2.2.2.2.2.1),AV.val (.int .i64 b.2.2.2.2.2.2.2.2.2.1),AV.val (.bool b.2.2.2.2.2.2.2.2.2.2)]])).bind fun z=>
 some (z,true)):=by kernel_rfl
theorem ZqS (a:LL) (b c d e f:Int) (g:LL) (h i j k l m:Int) (n:Bool):g38 a b c d e f g h i j k l m n =
 ((g84 a d e f).bind fun o=>
 (g85 a b c).bind fun p=>
 if o.2 then
 some (E0,false)
 else
 if p.2 then
 some (E0,false)
 else
 Zlk Jn a b c d e f g h i j k l m n (List.length a:Int) a (List.length a:Int) 0):=by kernel_rfl
noncomputable def Zrt:Fn:=⟨12,[2],[],[],0,[],[],Tryz.f225,[.agg [.int .i64,.int .i64]],[.c (.int .i64)],[(195,Zmm.S)]⟩
theorem Zq7:Zrt.S.Ok Tryz.prog 225:=Zrt.ok Tryz.func225 (by kernel_rfl) ⟨ZiH,trivial⟩
noncomputable def ZrN:Fn:=⟨25,[4],[],[],0,[],[],Tryz.f200,[.agg [.int .i64,.int .i64],.agg [.int .i64,.int .i64]],[.c (.bool)],[(195,Zmm.S),(225,Zrt.S)]⟩
theorem Zqd:ZrN.S.Ok Tryz.prog 200:=ZrN.ok Tryz.func200 (by kernel_rfl) ⟨ZiH,⟨Zq7,trivial⟩⟩
noncomputable def Zsa:Fn:=⟨25,[4],[],[],0,[],[],Tryz.f226,[.agg [.int .i64,.int .i64],.agg [.int .i64,.int .i64]],[.c (.bool)],[(195,Zmm.S),(225,Zrt.S)]⟩
theorem ZsA:Zsa.S.Ok Tryz.prog 226:=Zsa.ok Tryz.func226 (by kernel_rfl) ⟨ZiH,⟨Zq7,trivial⟩⟩
noncomputable def ZrX:Fn:=⟨61,[6],[(3,[(0,.c (.slice 13)),(2,.c (.slice 7)),(7,.c (.int .i64)),(8,.c (.bool)),(20,.c (.slice 13)),(21,.c (.int .i64)),(22,.c (.int .i64))]),(8,[(0,.c (.slice 13)),(2,.c (.slice 7)),(7,.c (.int .i64)),(8,.c (.bool)),(11,.box [.int .i64,.int .i64]),(20,.c (.slice 13)),(21,.c (.int .i64)),(22,.c (.int .i64)),(49,.c (.slice 7)),(50,.c (.int .i64)),(51,.c (.int .i64))])],[],0,[],[],Tryz.f201,[.c (.slice 13),.agg [.int .i64,.int .i64,.int .i64],.c (.slice 7)],[.c (.bool)],[(84,F84.S),(196,Zq4.S),(200,ZrN.S),(226,Zsa.S)]⟩
theorem Zpd:ZrX.S.Ok Tryz.prog 201:=ZrX.ok Tryz.func201 (by kernel_rfl) ⟨Zrd,⟨Zpr,⟨Zqd,⟨ZsA,trivial⟩⟩⟩⟩
noncomputable def Zrv:Fn:=⟨34,[4],[(3,[(0,.box hs4),(5,.c (.slice 13)),(14,.c (.slice 13)),(15,.c (.int .i64)),(16,.c (.int .i64))])],[0],0,[],[],Tryz.f199,[.box hs4,.c (.slice 13)],[.c (.bool)],[(38,F38.S)]⟩
theorem Zq3:Zrv.S.Ok Tryz.prog 199:=Zrv.ok Tryz.func199 (by kernel_rfl) ⟨ZuA,trivial⟩
noncomputable def F102.S:Fun:=Zrj false 40
theorem Zum:F102.S.Ok Tryz.prog 102:=delF_ok (T:=23) (B:=4) (I:=3) (U:=0) (e:=40) (bytes:=120) mixed (by kernel_rfl) Tryz.func102 (by kernel_rfl) ⟨by kernel_rfl,by kernel_rfl,by kernel_rfl⟩
noncomputable def Zt1 (a:LL) (b c:Int):Option LL:=F102.S.g [.l a,.i b,.i c]
theorem ZmO (a:LL) (b c:Int):Zt1 a b c=Zm5 a b c:=rfl
noncomputable def F46:Fn:=⟨22,[4,5],[],[],0,[],[],Tryz.f46,[.c (.slice 13),.agg [.int .i64,.int .i64,.int .i64]],[.c (.slice 13),.c (.bool)],[(84,F84.S),(51,F51.S),(102,F102.S)]⟩
theorem ZuU:F46.S.Ok Tryz.prog 46:=F46.ok Tryz.func46 (by kernel_rfl) ⟨Zrd,⟨ZsS,⟨Zum,trivial⟩⟩⟩
noncomputable def g46 (a:LL) (b c d:Int):Option (LL×Bool):=F46.S.g [.l a,.i b,.i c,.i d]
theorem Zp6 (a:LL) (c d e:Int):g46 a c d e =
 ((g84 a c d e).bind fun b=>
 if (!b.2) then
 some (E0,false)
 else
 (g51 a).bind fun f=>
 (Zt1 f b.1 (iop .add .i64 b.1 1)).bind fun g=>
 some (g,true)):=by kernel_rfl
end Go.Proofs.YtlgmnddelljbmaaGreat
